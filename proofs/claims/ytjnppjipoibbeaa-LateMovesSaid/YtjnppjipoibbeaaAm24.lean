/-
  The evaluator as a tree, with both ways of a condition brought together again where it can be done.
-/
import Derived.Test.YtjnppjipoibbeaaAm23
namespace Go.Am
set_option linter.all false

inductive Hj where
  | sym (l r : Hj)
  | con (n : Hj)
  | yes (n : Hj)
  | no (n : Hj)
  | val (n : Hj)
  | join (m : Nat) (l r n : Hj)
  /-- an operation's value is asked for, not found -/
  | use (d : Nat) (v : Value) (h : Heap) (n : Hj)
  /-- what a loop comes to is asked for, not walked; with two ends: on, or back -/
  | crs (vals : List (Option (Value × Heap))) (n : Hj)
  | lp (id : Nat) (lv : List Nat) (t : Fr) (h : Heap) (n : Hj)
  | lp2 (id : Nat) (lv : List Nat) (b : Bool) (t : Fr) (h : Heap) (t' : Fr) (h' : Heap) (l r : Hj)
  | nil

def mergeV (b : Bool) : Value → Value → Option Value
  | .bool x, .bool y => some (.bool (bif b then x else y))
  | .int k x, .int k' y => if k = k' then some (.int k (bif b then x else y)) else none
  | _, _ => none
theorem mergeV_eq {b : Bool} {u v w : Value} (e : mergeV b u v = some w) : w = if b then u else v := by
  unfold mergeV at e
  split at e
  · cases e; cases b <;> rfl
  · split at e
    · rename_i hk; cases e; subst hk; cases b <;> rfl
    · cases e
  · cases e

/-! ### What a temp's value is read by -/
def rdOs : Operand → List Nat
  | .tmp i => [i]
  | _ => []
def rdG : Option (Nat × Bool) → List Nat
  | none => []
  | some (i, _) => [i]
def rdOp (o : IOp) : List Nat := rdG o.g ++ (opnds o.k).flatMap rdOs
abbrev Lv := Nat → Bool
def isLive (i : Nat) : List IOp → Lv → Bool
  | [], lv => lv i
  | o :: r, lv => (rdOp o).contains i || (match o.dst with
    | some d => if d = i then false else isLive i r lv
    | none => isLive i r lv)
def exR (i : Nat) : List IOp → Bool
  | [] => false
  | o :: r => (rdOp o).contains i || (match o.dst with
    | some d => if d = i then false else exR i r
    | none => exR i r)
/-- Temps that a region writes, whatever comes. -/
def dfL (i : Nat) : IL → Bool
  | .reg ops => ops.any fun o => o.dst == some i
  | .dreg ops _ => ops.any fun o => o.dst == some i
  | _ => false
def exL (i : Nat) : IL → Bool
  | .reg ops => exR i ops
  | .dreg ops _ => exR i ops
  | .seq x y => exL i x || (!(dfL i x) && exL i y)
  | .ite c x y => (rdOs c).contains i || (exL i x || exL i y)
  | .block _ x => exL i x
  | .loop x => exL i x
  | _ => false
theorem live_of {i : Nat} {lv : Lv} : ∀ (ops : List IOp), exR i ops = false → lv i = false → isLive i ops lv = false
  | [], _, h => h
  | o :: r, h1, h2 => by
    simp only [exR, isLive, Bool.or_eq_false_iff] at h1 ⊢
    refine ⟨h1.1, ?_⟩
    have h3 := h1.2
    split at h3
    · rename_i d hd
      split at h3
      · rename_i q; simp [q]
      · rename_i q; simp [q, live_of r h3 h2]
    · exact live_of r h3 h2

theorem live_df {i : Nat} {lv : Lv} : ∀ (ops : List IOp), exR i ops = false → (lv i = false ∨ (ops.any fun o => o.dst == some i) = true) → isLive i ops lv = false
  | [], _, h => by
    rcases h with h | h
    · exact h
    · simp at h
  | o :: r, h1, h2 => by
    simp only [exR, isLive, Bool.or_eq_false_iff] at h1 ⊢
    refine ⟨h1.1, ?_⟩
    have h3 := h1.2
    split at h3
    · rename_i d hd
      split at h3
      · rename_i q; simp [q]
      · rename_i q
        simp only [q, if_false]
        refine live_df r h3 ?_
        rcases h2 with h2 | h2
        · exact .inl h2
        · right
          simp only [List.any_cons, hd, Bool.or_eq_true] at h2
          rcases h2 with h2 | h2
          · simp at h2; exact absurd h2 q
          · exact h2
    · rename_i hd
      refine live_df r h3 ?_
      rcases h2 with h2 | h2
      · exact .inl h2
      · right
        simp only [List.any_cons, hd, Bool.or_eq_true] at h2
        rcases h2 with h2 | h2
        · simp at h2
        · exact h2
def Ag (D : Nat → Prop) (t t' : Fr) : Prop := t.length = t'.length ∧ ∀ i, ¬ D i → t.getD i undef = t'.getD i undef
theorem Ag.refl {D : Nat → Prop} (t : Fr) : Ag D t t := ⟨rfl, fun _ _ => rfl⟩
theorem Ag.symm {D : Nat → Prop} {t t' : Fr} (h : Ag D t t') : Ag D t' t := ⟨h.1.symm, fun i hi => (h.2 i hi).symm⟩
theorem Ag.trans {D : Nat → Prop} {t t' t'' : Fr} (h : Ag D t t') (h' : Ag D t' t'') : Ag D t t'' := ⟨h.1.trans h'.1, fun i hi => (h.2 i hi).trans (h'.2 i hi)⟩
theorem Ag.mono {D D' : Nat → Prop} {t t' : Fr} (h : Ag D t t') (hd : ∀ i, D i → D' i) : Ag D' t t' := ⟨h.1, fun i hi => h.2 i fun q => hi (hd i q)⟩

theorem getD_set {t : Fr} {d i : Nat} {v : Value} : (t.set d v).getD i undef = if d = i ∧ d < t.length then v else t.getD i undef := by
  simp only [List.getD, List.getElem?_set]
  by_cases h : d = i
  · subst h
    by_cases h1 : d < t.length
    · simp [h1]
    · simp [h1]
  · simp [h]
theorem put_len {t : Fr} {d : Option Nat} {v : Value} : (put t d v).length = t.length := by cases d <;> simp [put]

theorem Ag.put {D : Nat → Prop} {t t' : Fr} (h : Ag D t t') (d : Option Nat) (v : Value) : Ag (fun i => D i ∧ d ≠ some i) (put t d v) (put t' d v) := by
  refine ⟨by simp [put_len, h.1], fun i hi => ?_⟩
  cases d with
  | none => exact h.2 i fun q => hi ⟨q, by simp⟩
  | some d =>
    simp only [Am.put, getD_set, ← h.1]
    by_cases hd : d = i
    · subst hd
      by_cases hl : d < t.length
      · simp [hl]
      · simp only [hl, and_false, if_false]
        have e1 : t.getD d undef = undef := by simp [List.getD, List.getElem?_eq_none (by omega : t.length ≤ d)]
        have e2 : t'.getD d undef = undef := by simp [List.getD, List.getElem?_eq_none (by rw [← h.1]; omega : t'.length ≤ d)]
        rw [e1, e2]
    · simp only [hd, false_and, if_false]
      exact h.2 i fun q => hi ⟨q, by simpa using hd⟩

theorem mem_rd {k : IK} {i : Nat} (h : Operand.tmp i ∈ opnds k) : i ∈ (opnds k).flatMap rdOs := List.mem_flatMap.2 ⟨_, h, by simp [rdOs]⟩

theorem ag_want {D : Nat → Prop} {t t' : Fr} (ha : Ag D t t') {o : IOp} (hd : ∀ i, D i → (rdOp o).contains i = false) : want t o.g = want t' o.g := by
  unfold want
  cases hg : o.g with
  | none => rfl
  | some p =>
    obtain ⟨i, b⟩ := p
    have hi : ¬ D i := fun q => by
      have := hd i q
      simp [rdOp, hg, rdG] at this
    simp only [ha.2 i hi]
theorem ag_op {D : Nat → Prop} {t t' : Fr} (ha : Ag D t t') {o : IOp} {Γ : Env} {h : Heap} (hd : ∀ i, D i → (rdOp o).contains i = false) : opA Γ o.k t h = opA Γ o.k t' h := by
  apply opA_congr
  intro x hx
  cases x with
  | tmp i =>
    have hi : ¬ D i := fun q => by
      have h1 := hd i q
      have h2 : i ∈ rdOp o := List.mem_append.2 (.inr (mem_rd hx))
      simp at h1
      exact h1 h2
    exact ha.2 i hi
  | _ => rfl

theorem runR_ins {Γ : Env} {lv : Lv} : ∀ (ops : List IOp) (D : Nat → Prop) (t t' : Fr) (h : Heap) (t1 : Fr) (h1 : Heap), Ag D t t' → (∀ i, D i → isLive i ops lv = false) → runR Γ ops t h = some (t1, h1) →
    ∃ t1', runR Γ ops t' h = some (t1', h1) ∧ Ag (fun i => lv i = false) t1 t1'
  | [], D, t, t', h, t1, h1, ha, hd, e => by
    cases e
    exact ⟨t', rfl, ha.mono hd⟩
  | o :: r, D, t, t', h, t1, h1, ha, hd, e => by
    have hd1 : ∀ i, D i → (rdOp o).contains i = false := fun i hi => by
      have := hd i hi
      simp only [isLive, Bool.or_eq_false_iff] at this
      exact this.1
    have hd2 : ∀ i, (D i ∧ o.dst ≠ some i) → isLive i r lv = false := fun i ⟨hi, hn⟩ => by
      have := hd i hi
      simp only [isLive, Bool.or_eq_false_iff] at this
      have h2 := this.2
      split at h2
      · rename_i d hd
        split at h2
        · rename_i q; subst q; exact absurd hd hn
        · exact h2
      · exact h2
    simp only [runR] at e ⊢
    rw [← ag_want ha hd1, ← ag_op ha hd1]
    split at e
    · rename_i hw
      rw [if_pos hw]
      split at e
      · rename_i v h2 hv
        exact runR_ins r _ _ _ h2 t1 h1 (ha.put o.dst v) hd2 e
      · cases e
    · rename_i hw
      rw [if_neg hw]
      exact runR_ins r _ _ _ h t1 h1 (ha.put o.dst undef) hd2 e

theorem isLive_app {d : Nat} {lv : Lv} : ∀ (a b : List IOp), isLive d (a ++ b) lv = isLive d a (fun i => isLive i b lv)
  | [], _ => rfl
  | o :: r, b => by
    simp only [List.cons_append, isLive]
    rw [isLive_app r b]

theorem crossB_ins {Γ : Env} {lv : Lv} {os : List IOp} {D : Nat → Prop} {t t' : Fr} {h : Heap} (ha : Ag D t t') (hd : ∀ i, D i → isLive i os lv = false) : ∀ (X : List (Nat × Nat)), crossB Γ os t h X = true → crossB Γ os t' h X = true
  | [], _ => rfl
  | (i, j) :: r, e => by
    simp only [crossB, Bool.and_eq_true] at e ⊢
    refine ⟨?_, crossB_ins ha hd r e.2⟩
    have e1 := e.1
    have run : ∀ n (t1 : Fr) (h1 : Heap), runR Γ (os.take n) t h = some (t1, h1) → ∃ t1', runR Γ (os.take n) t' h = some (t1', h1) ∧ Ag (fun d => isLive d (os.drop n) lv = false) t1 t1' := fun n t1 h1 q =>
      runR_ins (os.take n) D t t' h t1 h1 ha (fun d hD => by have := hd d hD; rw [← List.take_append_drop n os, isLive_app] at this; exact this) q
    split at e1
    · rename_i x ti hi tj hj hx q1 q2
      obtain ⟨ti', r1, a1⟩ := run _ _ _ q1
      obtain ⟨tj', r2, _⟩ := run _ _ _ q2
      have hdr : os.drop i = x :: os.drop (i + 1) := by
        have hlt : i < os.length := (List.getElem?_eq_some_iff.1 hx).1
        rw [List.drop_eq_getElem_cons hlt]
        have := (List.getElem?_eq_some_iff.1 hx).2
        rw [this]
      have hrd : ∀ d, isLive d (os.drop i) lv = false → (rdOp x).contains d = false := fun d q => by
        rw [hdr] at q
        simp only [isLive, Bool.or_eq_false_iff] at q
        exact q.1
      rw [hx, r1, r2]
      simp only [← ag_want a1 hrd, ← ag_op (Γ := Γ) (h := hi) a1 hrd, ← ag_op (Γ := Γ) (h := hj) a1 hrd]
      exact e1
    · cases e1

theorem execF_ins0 {Γ : Env} : ∀ (n : Nat) (lv : Lv) (x : IL) (t t' : Fr) (h : Heap) (e : Ex) (t1 : Fr) (h1 : Heap), Ag (fun i => lv i = false) t t' → (∀ i, exL i x = true → lv i = true) →
    execF Γ n x t h = some (e, t1, h1) → ∃ t1', execF Γ n x t' h = some (e, t1', h1) ∧ Ag (fun i => (lv i || dfL i x) = false) t1 t1'
  | 0, _, _, _, _, _, _, _, _, _, _, e => by cases e
  | n + 1, lv, x, t, t', h, e, t1, h1, ha, hx, he => by
    have reg : ∀ (ops : List IOp), (∀ i, exR i ops = true → lv i = true) → ∀ i, lv i = false → isLive i ops (fun i => lv i || ops.any fun o => o.dst == some i) = false := fun ops hx i hi => by
      refine live_df ops ?_ ?_
      · cases q : exR i ops with
        | false => rfl
        | true => have := hx i q; rw [hi] at this; cases this
      · cases q : (ops.any fun o => o.dst == some i) with
        | false => left; simp only [hi, q, Bool.or_false]
        | true => exact .inr rfl
    cases x with
    | skip => cases he; exact ⟨t', rfl, ha.mono fun i q => by simpa [dfL] using q⟩
    | exit id => cases he; exact ⟨t', rfl, ha.mono fun i q => by simpa [dfL] using q⟩
    | ret => cases he; exact ⟨t', rfl, ha.mono fun i q => by simpa [dfL] using q⟩
    | reg ops =>
      simp only [execF] at he ⊢
      split at he
      · rename_i t2 h2 e2
        cases he
        obtain ⟨t3, e3, a3⟩ := runR_ins ops _ t t' h _ _ ha (reg ops fun i q => hx i (by simpa [exL] using q)) e2
        exact ⟨t3, by rw [e3], a3⟩
      · cases he
    | dreg ops X =>
      have hd := reg ops fun i q => hx i (by simpa [exL] using q)
      simp only [execF] at he ⊢
      split at he
      · rename_i hc
        rw [if_pos (crossB_ins ha hd X hc)]
        split at he
        · rename_i t2 h2 e2
          cases he
          obtain ⟨t3, e3, a3⟩ := runR_ins ops _ t t' h _ _ ha hd e2
          exact ⟨t3, by rw [e3], a3⟩
        · cases he
      · cases he
    | seq x y =>
      simp only [exL, Bool.or_eq_true, Bool.and_eq_true] at hx
      simp only [execF] at he ⊢
      split at he
      · rename_i t2 h2 e2
        obtain ⟨t3, e3, a3⟩ := execF_ins0 n lv x t t' h _ _ _ ha (fun i q => hx i (.inl q)) e2
        obtain ⟨t4, e4, a4⟩ := execF_ins0 n (fun i => lv i || dfL i x) y t2 t3 h2 _ _ _ a3 (fun i q => by
          cases r : dfL i x with
          | true => simp
          | false => simp [hx i (.inr ⟨by simp [r], q⟩)]) he
        exact ⟨t4, by rw [e3]; exact e4, a4.mono fun i q => by simp only [Bool.or_eq_false_iff, dfL] at q ⊢; exact ⟨q.1.1, trivial⟩⟩
      · rename_i hne
        obtain ⟨t3, e3, a3⟩ := execF_ins0 n lv x t t' h _ _ _ ha (fun i q => hx i (.inl q)) he
        refine ⟨t3, ?_, a3.mono fun i q => by simp only [Bool.or_eq_false_iff, dfL] at q ⊢; exact ⟨q.1, trivial⟩⟩
        rw [e3]
        cases e with
        | normal => exact absurd he (hne _ _)
        | _ => rfl
    | ite c x y =>
      simp only [exL, Bool.or_eq_true] at hx
      have hc : ev t c = ev t' c := by
        cases c with
        | tmp i => exact ha.2 i fun q => by have := hx i (.inl (by simp [rdOs])); rw [q] at this; cases this
        | _ => rfl
      have less : ∀ (z : IL) i, (lv i || dfL i z) = false → (lv i || dfL i (.ite c x y)) = false := fun z i q => by simp only [Bool.or_eq_false_iff, dfL] at q ⊢; exact ⟨q.1, trivial⟩
      simp only [execF, ← hc] at he ⊢
      split at he
      · obtain ⟨t3, e3, a3⟩ := execF_ins0 n lv x t t' h _ _ _ ha (fun i q => hx i (.inr (.inl q))) he
        exact ⟨t3, e3, a3.mono (less x)⟩
      · obtain ⟨t3, e3, a3⟩ := execF_ins0 n lv y t t' h _ _ _ ha (fun i q => hx i (.inr (.inr q))) he
        exact ⟨t3, e3, a3.mono (less y)⟩
      · cases he
    | block id x =>
      have less : ∀ i, (lv i || dfL i x) = false → (lv i || dfL i (.block id x)) = false := fun i q => by simp only [Bool.or_eq_false_iff, dfL] at q ⊢; exact ⟨q.1, trivial⟩
      simp only [execF] at he ⊢
      split at he
      · rename_i i t2 h2 e2
        obtain ⟨t3, e3, a3⟩ := execF_ins0 n lv x t t' h _ _ _ ha (fun i q => hx i (by simpa [exL] using q)) e2
        rw [e3]
        dsimp only
        split at he
        · rename_i hi; cases he; exact ⟨t3, by rw [if_pos hi], a3.mono less⟩
        · rename_i hi; cases he; exact ⟨t3, by rw [if_neg hi], a3.mono less⟩
      · rename_i hne
        obtain ⟨t3, e3, a3⟩ := execF_ins0 n lv x t t' h _ _ _ ha (fun i q => hx i (by simpa [exL] using q)) he
        refine ⟨t3, ?_, a3.mono less⟩
        rw [e3]
        cases e with
        | exit i => exact absurd he (hne _ _ _)
        | _ => rfl
    | loop x =>
      have less : ∀ i, (lv i || dfL i x) = false → (lv i || dfL i (.loop x)) = false := fun i q => by simp only [Bool.or_eq_false_iff, dfL] at q ⊢; exact ⟨q.1, trivial⟩
      have hx' : ∀ i, exL i x = true → lv i = true := fun i q => hx i (by simpa [exL] using q)
      simp only [execF] at he ⊢
      split at he
      · rename_i t2 h2 e2
        obtain ⟨t3, e3, a3⟩ := execF_ins0 n lv x t t' h _ _ _ ha hx' e2
        obtain ⟨t4, e4, a4⟩ := execF_ins0 n lv (.loop x) t2 t3 h2 _ _ _ (a3.mono fun i q => by simp only [Bool.or_eq_false_iff] at q; exact q.1) hx he
        exact ⟨t4, by rw [e3]; exact e4, a4⟩
      · rename_i hne
        obtain ⟨t3, e3, a3⟩ := execF_ins0 n lv x t t' h _ _ _ ha hx' he
        refine ⟨t3, ?_, a3.mono less⟩
        rw [e3]
        cases e with
        | normal => exact absurd he (hne _ _)
        | _ => rfl
theorem execF_ins {Γ : Env} {lv : Lv} (n : Nat) (x : IL) (t t' : Fr) (h : Heap) (e : Ex) (t1 : Fr) (h1 : Heap) (ha : Ag (fun i => lv i = false) t t') (hx : ∀ i, exL i x = true → lv i = true)
    (he : execF Γ n x t h = some (e, t1, h1)) : ∃ t1', execF Γ n x t' h = some (e, t1', h1) ∧ Ag (fun i => lv i = false) t1 t1' := by
  obtain ⟨t3, e3, a3⟩ := execF_ins0 n lv x t t' h e t1 h1 ha hx he
  exact ⟨t3, e3, a3.mono fun i q => by simp only [Bool.or_eq_false_iff] at q; exact q.1⟩

/-! ### What a statement comes to -/
theorem execF_mono {Γ : Env} : ∀ (n m : Nat) (x : IL) (t : Fr) (h : Heap) (r : Ex × Fr × Heap), n ≤ m → execF Γ n x t h = some r → execF Γ m x t h = some r
  | 0, _, _, _, _, _, _, e => by cases e
  | _ + 1, 0, _, _, _, _, hm, _ => by omega
  | n + 1, m + 1, x, t, h, r, hm, e => by
    have hm' : n ≤ m := by omega
    cases x with
    | skip => exact e
    | exit id => exact e
    | ret => exact e
    | reg ops => exact e
    | dreg ops X => exact e
    | seq x y =>
      simp only [execF] at e ⊢
      split at e
      · rename_i t2 h2 e2
        rw [execF_mono n m x t h _ hm' e2]
        exact execF_mono n m y t2 h2 _ hm' e
      · rename_i hne
        rw [execF_mono n m x t h _ hm' e]
        obtain ⟨ex, t2, h2⟩ := r
        cases ex with
        | normal => exact absurd e (hne _ _)
        | _ => rfl
    | ite c x y =>
      simp only [execF] at e ⊢
      split at e
      · exact execF_mono n m x t h _ hm' e
      · exact execF_mono n m y t h _ hm' e
      · cases e
    | block id x =>
      simp only [execF] at e ⊢
      split at e
      · rename_i i t2 h2 e2
        rw [execF_mono n m x t h _ hm' e2]
        exact e
      · rename_i hne
        rw [execF_mono n m x t h _ hm' e]
        obtain ⟨ex, t2, h2⟩ := r
        cases ex with
        | exit i => exact absurd e (hne _ _ _)
        | _ => rfl
    | loop x =>
      simp only [execF] at e ⊢
      split at e
      · rename_i t2 h2 e2
        rw [execF_mono n m x t h _ hm' e2]
        exact execF_mono n m (.loop x) t2 h2 _ hm' e
      · rename_i hne
        rw [execF_mono n m x t h _ hm' e]
        obtain ⟨ex, t2, h2⟩ := r
        cases ex with
        | normal => exact absurd e (hne _ _)
        | _ => rfl

abbrev Post2 := Ex → Fr → Heap → Prop
/-- The statement ends, in a state that is like one of which K holds, as far as anybody looks. -/
def Wp (Γ : Env) (lv : Lv) (x : IL) (t : Fr) (h : Heap) (K : Post2) : Prop :=
  ∃ n e t' h' s, execF Γ n x t h = some (e, t', h') ∧ Ag (fun i => lv i = false) t' s ∧ K e s h'
theorem Wp.mono {Γ : Env} {lv : Lv} {x : IL} {t : Fr} {h : Heap} {K K' : Post2} (w : Wp Γ lv x t h K) (k : ∀ e s h', K e s h' → K' e s h') : Wp Γ lv x t h K' :=
  let ⟨n, e, t', h', s, a, b, c⟩ := w
  ⟨n, e, t', h', s, a, b, k _ _ _ c⟩
theorem Wp.less {Γ : Env} {lv lv' : Lv} {x : IL} {t : Fr} {h : Heap} {K : Post2} (w : Wp Γ lv x t h K) (k : ∀ i, lv' i = true → lv i = true) : Wp Γ lv' x t h K :=
  have key : ∀ i, lv i = false → lv' i = false := fun i q => by
    cases r : lv' i with
    | false => rfl
    | true => rw [k i r] at q; cases q
  let ⟨n, e, t', h', s, a, b, c⟩ := w
  ⟨n, e, t', h', s, a, b.mono key, c⟩
/-- Another state to begin with, alike where somebody looks. -/
theorem Wp.ag {Γ : Env} {lv : Lv} {x : IL} {t t0 : Fr} {h : Heap} {K : Post2} (a : Ag (fun i => (exL i x || lv i) = false) t t0) (w : Wp Γ lv x t0 h K) : Wp Γ lv x t h K := by
  obtain ⟨n, e, t', h', s, q1, q2, q3⟩ := w
  obtain ⟨t1, r1, r2⟩ := execF_ins (lv := fun i => exL i x || lv i) n x t0 t h _ _ _ a.symm (fun i q => by simp [q]) q1
  exact ⟨n, e, t1, h', s, r1, (r2.symm.mono fun i q => by simp at q; exact q.2).trans q2, q3⟩
def thenK (J : Fr → Heap → Prop) (K : Post2) : Post2 := fun e t h => match e with
  | .normal => J t h
  | e => K e t h
theorem Wp.seq {Γ : Env} {lv : Lv} {x y : IL} {t : Fr} {h : Heap} {K : Post2} (w : Wp Γ (fun i => exL i y || lv i) x t h (thenK (fun t h => Wp Γ lv y t h K) K)) : Wp Γ lv (.seq x y) t h K := by
  obtain ⟨n, e, t1, h1, s1, q1, a1, q2⟩ := w
  have less : ∀ i, (exL i y || lv i) = false → lv i = false := fun i q => by simp at q; exact q.2
  cases e with
  | normal =>
    obtain ⟨m, e2, t2, h2, s2, q3, a2, q4⟩ := Wp.ag a1 q2
    exact ⟨max n m + 1, e2, t2, h2, s2, by simp only [execF, execF_mono n (max n m) x t h _ (by omega) q1, execF_mono m (max n m) y t1 h1 _ (by omega) q3], a2, q4⟩
  | ret => exact ⟨n + 1, .ret, t1, h1, s1, by simp only [execF, q1], a1.mono less, q2⟩
  | exit id => exact ⟨n + 1, .exit id, t1, h1, s1, by simp only [execF, q1], a1.mono less, q2⟩
theorem Wp.iteT {Γ : Env} {lv : Lv} {c : Operand} {x y : IL} {t : Fr} {h : Heap} {K : Post2} (hc : ev t c = .bool true) (w : Wp Γ lv x t h K) : Wp Γ lv (.ite c x y) t h K := by
  obtain ⟨n, e, t1, h1, s1, q1, a1, q2⟩ := w
  exact ⟨n + 1, e, t1, h1, s1, by simp only [execF, hc, q1], a1, q2⟩
theorem Wp.iteF {Γ : Env} {lv : Lv} {c : Operand} {x y : IL} {t : Fr} {h : Heap} {K : Post2} (hc : ev t c = .bool false) (w : Wp Γ lv y t h K) : Wp Γ lv (.ite c x y) t h K := by
  obtain ⟨n, e, t1, h1, s1, q1, a1, q2⟩ := w
  exact ⟨n + 1, e, t1, h1, s1, by simp only [execF, hc, q1], a1, q2⟩
def endK (id : Nat) (K : Post2) : Post2 := fun e t h => match e with
  | .exit i => if i = id then K .normal t h else K (.exit i) t h
  | e => K e t h
theorem Wp.block {Γ : Env} {lv : Lv} {id : Nat} {x : IL} {t : Fr} {h : Heap} {K : Post2} (w : Wp Γ lv x t h (endK id K)) : Wp Γ lv (.block id x) t h K := by
  obtain ⟨n, e, t1, h1, s1, q1, a1, q2⟩ := w
  cases e with
  | normal => exact ⟨n + 1, .normal, t1, h1, s1, by simp only [execF, q1], a1, q2⟩
  | ret => exact ⟨n + 1, .ret, t1, h1, s1, by simp only [execF, q1], a1, q2⟩
  | exit i =>
    simp only [endK] at q2
    split at q2
    · rename_i hi; exact ⟨n + 1, .normal, t1, h1, s1, by simp only [execF, q1, hi, if_true], a1, q2⟩
    · rename_i hi; exact ⟨n + 1, .exit i, t1, h1, s1, by simp only [execF, q1, hi, if_false], a1, q2⟩
theorem Wp.loop1 {Γ : Env} {lv : Lv} {x : IL} {t : Fr} {h : Heap} {K : Post2} (w : Wp Γ (fun i => exL i x || lv i) x t h (thenK (fun t h => Wp Γ lv (.loop x) t h K) K)) : Wp Γ lv (.loop x) t h K := by
  obtain ⟨n, e, t1, h1, s1, q1, a1, q2⟩ := w
  have less : ∀ i, (exL i x || lv i) = false → lv i = false := fun i q => by simp at q; exact q.2
  cases e with
  | normal =>
    obtain ⟨m, e2, t2, h2, s2, q3, a2, q4⟩ := Wp.ag (a1.mono fun i q => by simpa [exL] using q) q2
    exact ⟨max n m + 1, e2, t2, h2, s2, by simp only [execF, execF_mono n (max n m) x t h _ (by omega) q1, execF_mono m (max n m) (.loop x) t1 h1 _ (by omega) q3], a2, q4⟩
  | ret => exact ⟨n + 1, .ret, t1, h1, s1, by simp only [execF, q1], a1.mono less, q2⟩
  | exit id => exact ⟨n + 1, .exit id, t1, h1, s1, by simp only [execF, q1], a1.mono less, q2⟩
/-- A loop, by what holds at each of its turns, and a number that falls. -/
theorem Wp.loop {Γ : Env} {lv : Lv} {x : IL} {K : Post2} (I : Nat → Fr → Heap → Prop)
    (step : ∀ n t h, I n t h → Wp Γ (fun i => exL i x || lv i) x t h (thenK (fun t h => ∃ m, m < n ∧ I m t h) K)) : ∀ n t h, I n t h → Wp Γ lv (.loop x) t h K := by
  intro n
  induction n using Nat.strongRecOn with
  | _ n ih =>
    intro t h hI
    refine Wp.loop1 ((step n t h hI).mono fun e s h' q => ?_)
    cases e with
    | normal =>
      obtain ⟨m, hm, hI'⟩ := q
      exact ih m hm s h' hI'
    | ret => exact q
    | exit id => exact q

theorem runR_len0 {Γ : Env} : ∀ (ops : List IOp) (t : Fr) (h : Heap) (t1 : Fr) (h1 : Heap), runR Γ ops t h = some (t1, h1) → t1.length = t.length
  | [], t, h, t1, h1, e => by cases e; rfl
  | o :: r, t, h, t1, h1, e => by
    simp only [runR] at e
    split at e
    · split at e
      · exact (runR_len0 r _ _ _ _ e).trans put_len
      · cases e
    · exact (runR_len0 r _ _ _ _ e).trans put_len
theorem execF_len {Γ : Env} : ∀ (n : Nat) (x : IL) (t : Fr) (h : Heap) (e : Ex) (t1 : Fr) (h1 : Heap), execF Γ n x t h = some (e, t1, h1) → t1.length = t.length
  | 0, _, _, _, _, _, _, e => by cases e
  | n + 1, x, t, h, e, t1, h1, he => by
    cases x with
    | skip => cases he; rfl
    | exit id => cases he; rfl
    | ret => cases he; rfl
    | reg ops =>
      simp only [execF] at he
      split at he
      · rename_i e2; cases he; exact runR_len0 _ _ _ _ _ e2
      · cases he
    | dreg ops X =>
      simp only [execF] at he
      split at he
      · split at he
        · rename_i e2; cases he; exact runR_len0 _ _ _ _ _ e2
        · cases he
      · cases he
    | seq x y =>
      simp only [execF] at he
      split at he
      · rename_i e2; exact (execF_len n y _ _ _ _ _ he).trans (execF_len n x _ _ _ _ _ e2)
      · exact execF_len n x _ _ _ _ _ he
    | ite c x y =>
      simp only [execF] at he
      split at he
      · exact execF_len n x _ _ _ _ _ he
      · exact execF_len n y _ _ _ _ _ he
      · cases he
    | block id x =>
      simp only [execF] at he
      split at he
      · rename_i e2
        split at he
        · cases he; exact execF_len n x _ _ _ _ _ e2
        · cases he; exact execF_len n x _ _ _ _ _ e2
      · exact execF_len n x _ _ _ _ _ he
    | loop x =>
      simp only [execF] at he
      split at he
      · rename_i e2; exact (execF_len n (.loop x) _ _ _ _ _ he).trans (execF_len n x _ _ _ _ _ e2)
      · exact execF_len n x _ _ _ _ _ he
theorem getD_over {t : Fr} {i : Nat} (h : t.length ≤ i) : t.getD i undef = undef := by simp [List.getD, List.getElem?_eq_none h]
theorem Wp.lessN {Γ : Env} {lv lv' : Lv} {x : IL} {t : Fr} {h : Heap} {K : Post2} (w : Wp Γ lv x t h K) (k : ∀ i, i < t.length → lv' i = true → lv i = true) : Wp Γ lv' x t h K := by
  obtain ⟨n, e, t', h', s, a, b, c⟩ := w
  refine ⟨n, e, t', h', s, a, ⟨b.1, fun i hi => ?_⟩, c⟩
  have l := execF_len n x t h e t' h' a
  rcases Nat.lt_or_ge i t.length with q | q
  · refine b.2 i fun r => ?_
    have : lv' i = true := by
      cases z : lv' i with
      | true => rfl
      | false => exact absurd z hi
    have r' : lv i = false := r
    rw [k i q this] at r'
    cases r'
  · rw [getD_over (by omega), getD_over (by rw [← b.1]; omega)]
def inL (l : List Nat) : Lv := fun i => l.contains i
/-- A loop in its block: it ends by that block's exit, or by another. -/
theorem Wp.ends {Γ : Env} {lv : Lv} {x : IL} {t : Fr} {h : Heap} {K K' : Post2} (w : Wp Γ lv x t h K) (k : ∀ e s h', K e s h' → ∃ s', Ag (fun i => lv i = false) s s' ∧ K' e s' h') : Wp Γ lv x t h K' := by
  obtain ⟨n, e, t', h', s, a, b, c⟩ := w
  obtain ⟨s', a', c'⟩ := k _ _ _ c
  exact ⟨n, e, t', h', s', a, b.trans a', c'⟩
def norm (lv : Lv) : Nat → Fr → Fr
  | _, [] => []
  | i, v :: r => (if lv i then v else undef) :: norm lv (i + 1) r
theorem norm_len {lv : Lv} : ∀ (i : Nat) (t : Fr), (norm lv i t).length = t.length
  | _, [] => rfl
  | i, v :: r => by simp only [norm, List.length_cons, norm_len]
theorem norm_get {lv : Lv} : ∀ (i : Nat) (t : Fr) (j : Nat), (norm lv i t).getD j undef = if lv (i + j) then t.getD j undef else undef
  | i, [], j => by simp [norm]
  | i, v :: r, 0 => by simp [norm]
  | i, v :: r, j + 1 => by
    have := norm_get (lv := lv) (i + 1) r j
    simp only [norm, List.getD_cons_succ]
    rw [this, show i + 1 + j = i + (j + 1) by omega]
theorem norm_ag (lv : Lv) (t : Fr) : Ag (fun i => lv i = false) t (norm lv 0 t) := ⟨(norm_len 0 t).symm, fun i hi => by
  rw [norm_get, Nat.zero_add]
  cases q : lv i with
  | true => rfl
  | false => exact absurd q hi⟩
def fr (n : Nat) (l : List (Nat × Value)) : Fr := l.foldl (fun t p => t.set p.1 p.2) (List.replicate n undef)

theorem runR_len {Γ : Env} : ∀ (ops : List IOp) (t : Fr) (h : Heap) (t1 : Fr) (h1 : Heap), runR Γ ops t h = some (t1, h1) → t1.length = t.length ∧ ∀ i, i ∉ ops.filterMap (·.dst) → t1.getD i undef = t.getD i undef
  | [], t, h, t1, h1, e => by cases e; exact ⟨rfl, fun _ _ => rfl⟩
  | o :: r, t, h, t1, h1, e => by
    have key : ∀ (v : Value) (i : Nat), i ∉ (o :: r).filterMap (·.dst) → (put t o.dst v).getD i undef = t.getD i undef := by
      intro v i hi
      cases hd : o.dst with
      | none => rfl
      | some d =>
        simp only [List.filterMap_cons, hd] at hi
        simp only [put, getD_set]
        have : ¬ (d = i) := fun q => hi (by simp [q])
        simp [this]
    have sub : ∀ i, i ∉ (o :: r).filterMap (·.dst) → i ∉ r.filterMap (·.dst) := fun i hi q => hi (by
      rw [List.filterMap_cons]
      cases o.dst with
      | none => exact q
      | some d => exact List.mem_cons_of_mem _ q)
    simp only [runR] at e
    split at e
    · split at e
      · obtain ⟨a, b⟩ := runR_len r _ _ _ _ e
        exact ⟨a.trans put_len, fun i hi => (b i (sub i hi)).trans (key _ i hi)⟩
      · cases e
    · obtain ⟨a, b⟩ := runR_len r _ _ _ _ e
      exact ⟨a.trans put_len, fun i hi => (b i (sub i hi)).trans (key _ i hi)⟩
theorem runR_app {Γ : Env} : ∀ (a b : List IOp) (t : Fr) (h : Heap) (t1 : Fr) (h1 : Heap), runR Γ a t h = some (t1, h1) → runR Γ (a ++ b) t h = runR Γ b t1 h1
  | [], b, t, h, t1, h1, e => by cases e; rfl
  | o :: r, b, t, h, t1, h1, e => by
    simp only [runR, List.cons_append] at e ⊢
    split at e
    · rename_i hw
      rw [if_pos hw]
      split at e
      · rename_i v h2 hv
        exact runR_app r b _ _ _ _ e
      · cases e
    · rename_i hw
      rw [if_neg hw]
      exact runR_app r b _ _ _ _ e

/-! ### Both ways, brought together -/
def mergeF (b : Bool) (lv : Lv) (t1 t2 : Fr) : List Nat → Fr → Option Fr
  | [], t => some t
  | d :: r, t => if lv d then match mergeV b (t1.getD d undef) (t2.getD d undef) with
      | some v => mergeF b lv t1 t2 r (t.set d v)
      | none => none
    else mergeF b lv t1 t2 r (t.set d undef)
theorem mergeF_ok {b : Bool} {lv : Lv} {t1 t2 : Fr} : ∀ (ds : List Nat) (t t3 : Fr), mergeF b lv t1 t2 ds t = some t3 → t1.length = t.length → t2.length = t.length →
    t3.length = t.length ∧ ∀ i, lv i = true → (i ∈ ds → t3.getD i undef = (if b then t1 else t2).getD i undef) ∧ (i ∉ ds → t3.getD i undef = t.getD i undef)
  | [], t, t3, e, _, _ => by cases e; exact ⟨rfl, fun i _ => ⟨fun h => (by cases h), fun _ => rfl⟩⟩
  | d :: r, t, t3, e, l1, l2 => by
    simp only [mergeF] at e
    split at e
    · rename_i hl
      split at e
      · rename_i v hv
        obtain ⟨a, c⟩ := mergeF_ok r _ t3 e (by simpa using l1) (by simpa using l2)
        refine ⟨by simpa using a, fun i hi => ⟨fun hm => ?_, fun hm => ?_⟩⟩
        · by_cases hr : i ∈ r
          · exact (c i hi).1 hr
          · rw [(c i hi).2 hr, getD_set]
            have hdi : d = i := by simpa [hr, eq_comm] using hm
            subst hdi
            have hv' := mergeV_eq hv
            by_cases hlt : d < t.length
            · simp only [hlt, and_self, if_true, hv']
              cases b <;> rfl
            · simp only [hlt, and_false, if_false]
              have e0 : ∀ t : Fr, t.length ≤ d → t.getD d undef = undef := fun t h => by simp [List.getD, List.getElem?_eq_none h]
              rw [e0 t (by omega)]
              cases b
              · exact (e0 t2 (by omega)).symm
              · exact (e0 t1 (by omega)).symm
        · have h1 : ¬ i = d := fun q => hm (by simp [q])
          have h2 : i ∉ r := fun q => hm (by simp [q])
          rw [(c i hi).2 h2, getD_set]
          simp [Ne.symm h1]
      · cases e
    · rename_i hl
      obtain ⟨a, c⟩ := mergeF_ok r _ t3 e (by simpa using l1) (by simpa using l2)
      refine ⟨by simpa using a, fun i hi => ⟨fun hm => ?_, fun hm => ?_⟩⟩
      · have h1 : ¬ i = d := fun q => hl (by rw [← q]; exact hi)
        exact (c i hi).1 (by simpa [h1] using hm)
      · have h1 : ¬ i = d := fun q => hm (by simp [q])
        have h2 : i ∉ r := fun q => hm (by simp [q])
        rw [(c i hi).2 h2, getD_set]
        simp [Ne.symm h1]

def opJ (T : Plain) (Γ : Env) (k : IK) (t : Fr) (h : Heap) (hn : Hj) : Option (Bool × Value × Hj) :=
  match k with
  | .pick c a b => match hn with
    | .val n => match ev t c with
      | .bool c => (mergeV c (ev t a) (ev t b)).map fun v => (true, v, n)
      | _ => none
    | .con n => match ev t c with
      | .bool true => some (true, ev t a, n)
      | .bool false => some (true, ev t b, n)
      | _ => none
    | _ => none
  | .bin .quo x y => match ev t x, ev t y with
    | .int k a, .int k' b => if k = k' then some (!(decide (b = 0)), .int k (k.wrap (a.tdiv b)), hn) else none
    | _, _ => none
  | .bin .rem x y => match ev t x, ev t y with
    | .int k a, .int k' b => if k = k' then some (!(decide (b = 0)), .int k (a.tmod b), hn) else none
    | _, _ => none
  | .call f args => (T.find f (args.map (ev t))).map fun p => (p.1, p.2, hn)
  | k => if effK k then none else (pureA k t h).map fun v => (true, v, hn)

theorem opJ_ok {T : Plain} {Γ : Env} {k : IK} {t : Fr} {h : Heap} {hn : Hj} {q : Bool} {v : Value} {n : Hj} (e : opJ T Γ k t h hn = some (q, v, n)) (hq : q = true) : opA (T.env Γ) k t h = some (v, h) := by
  unfold opJ at e
  split at e
  · rename_i c a b
    split at e
    · split at e
      · rename_i c' hc
        cases hm : mergeV c' (ev t a) (ev t b) with
        | none => rw [hm] at e; cases e
        | some w =>
          rw [hm] at e; cases e
          simp only [opA, pureA, hc, mergeV_eq hm]
      · cases e
    · split at e
      · rename_i hc; cases e; simp only [opA, pureA, hc]; rfl
      · rename_i hc; cases e; simp only [opA, pureA, hc]; rfl
      · cases e
    · cases e
  · split at e
    · rename_i hx hy
      split at e
      · rename_i hkk
        cases e
        simp only [Bool.not_eq_true', decide_eq_false_iff_not] at hq
        simp only [opA, pureA, hx, hy, binA, hkk, if_true, intBin, hq, if_false]
      · cases e
    · cases e
  · split at e
    · rename_i hx hy
      split at e
      · rename_i hkk
        cases e
        simp only [Bool.not_eq_true', decide_eq_false_iff_not] at hq
        simp only [opA, pureA, hx, hy, binA, hkk, if_true, intBin, hq, if_false]
      · cases e
    · cases e
  · rename_i f args
    cases hf : T.find f (args.map (ev t)) with
    | none => rw [hf] at e; cases e
    | some p =>
      obtain ⟨b, w⟩ := p
      rw [hf] at e; cases e
      simp only [opA, Plain.env, hf]
      exact if_pos hq
  · split at e
    · cases e
    · rename_i hk
      rw [opA_pure (by simpa using hk)]
      cases hp : pureA k t h with
      | none => rw [hp] at e; cases e
      | some w => rw [hp] at e; cases e; rfl

def runJ (T : Plain) (Γ : Env) : Nat → List IOp → Fr → Heap → Hj → Lv → Option (Bool × Fr × Hj)
  | 0, _, _, _, _, _ => none
  | _ + 1, [], t, _, hn, _ => some (true, t, hn)
  | n + 1, o :: r, t, h, hn, lv =>
    let go (hn : Hj) : Option (Bool × Fr × Hj) := match opJ T Γ o.k t h hn with
      | some (q, v, hn) => match runJ T Γ n r (put t o.dst v) h hn lv with
        | some (q2, t2, hn2) => some (q && q2, t2, hn2)
        | none => none
      | none => none
    match o.g with
    | none => go hn
    | some (i, p) => match hn, t.getD i undef with
      | .join m hl hr hk, .bool b =>
        let lj : Lv := fun d => isLive d ((o :: r).drop m) lv
        match runJ T Γ n ((o :: r).take m) (t.set i (.bool true)) h hl lj, runJ T Γ n ((o :: r).take m) (t.set i (.bool false)) h hr lj with
        | some (q1, t1, _), some (q2, t2, _) => match mergeF b lj t1 t2 (((o :: r).take m).filterMap (·.dst)) t with
          | some t3 => match runJ T Γ n ((o :: r).drop m) t3 h hk lv with
            | some (q3, t4, hk') => some ((bif b then q1 else q2) && q3, t4, hk')
            | none => none
          | none => none
        | _, _ => none
      | .con hn, .bool c => if c == p then go hn else runJ T Γ n r (put t o.dst undef) h hn lv
      | .con hn, _ => runJ T Γ n r (put t o.dst undef) h hn lv
      | _, _ => none

theorem join_ag {Γ : Env} {a : List IOp} {b : Bool} {lj : Lv} {t t1 t2 t3 u : Fr} {h h1 : Heap} (hu : runR Γ a t h = some (u, h1)) (l1 : t1.length = t.length) (l2 : t2.length = t.length)
    (hm : mergeF b lj t1 t2 (a.filterMap (·.dst)) t = some t3) (ha : Ag (fun i => lj i = false) u (if b then t1 else t2)) : Ag (fun i => lj i = false) u t3 := by
  obtain ⟨ul, uf⟩ := runR_len a t h u h1 hu
  obtain ⟨m1, m2⟩ := mergeF_ok _ _ _ hm l1 l2
  refine ⟨by rw [ul, m1], fun i hi => ?_⟩
  have hi' : lj i = true := by cases q : lj i with
    | true => rfl
    | false => exact absurd q hi
  by_cases hd : i ∈ a.filterMap (·.dst)
  · rw [(m2 i hi').1 hd]; exact ha.2 i hi
  · rw [(m2 i hi').2 hd, uf i hd]

theorem runJ_ok {T : Plain} {Γ : Env} : ∀ (n : Nat) (ops : List IOp) (t : Fr) (h : Heap) (hn : Hj) (lv : Lv) (q : Bool) (t' : Fr) (hn' : Hj), runJ T Γ n ops t h hn lv = some (q, t', hn') →
    t'.length = t.length ∧ (q = true → ∃ t1, runR (T.env Γ) ops t h = some (t1, h) ∧ Ag (fun i => lv i = false) t1 t')
  | 0, _, _, _, _, _, _, _, _, e => by cases e
  | n + 1, [], t, h, hn, lv, q, t', hn', e => by cases e; exact ⟨rfl, fun _ => ⟨t, rfl, .refl t⟩⟩
  | n + 1, o :: r, t, h, hn, lv, q, t', hn', e => by
    have go : ∀ hn, want t o.g = true → (match opJ T Γ o.k t h hn with
      | some (q, v, hn) => match runJ T Γ n r (put t o.dst v) h hn lv with
        | some (q2, t2, hn2) => some (q && q2, t2, hn2)
        | none => none
      | none => none) = some (q, t', hn') → t'.length = t.length ∧ (q = true → ∃ t1, runR (T.env Γ) (o :: r) t h = some (t1, h) ∧ Ag (fun i => lv i = false) t1 t') := by
      intro hn hw e
      split at e
      · rename_i q1 v n1 ho
        split at e
        · rename_i q2 t2 n2 hr
          cases e
          obtain ⟨l, k⟩ := runJ_ok n r _ h _ lv _ _ _ hr
          refine ⟨l.trans put_len, fun hq => ?_⟩
          simp only [Bool.and_eq_true] at hq
          obtain ⟨t1, e1, a1⟩ := k hq.2
          exact ⟨t1, by simp only [runR, hw, if_true, opJ_ok ho hq.1, e1], a1⟩
        · cases e
      · cases e
    have skip : want t o.g = false → ∀ hn, runJ T Γ n r (put t o.dst undef) h hn lv = some (q, t', hn') → t'.length = t.length ∧ (q = true → ∃ t1, runR (T.env Γ) (o :: r) t h = some (t1, h) ∧ Ag (fun i => lv i = false) t1 t') := by
      intro hw hn e
      obtain ⟨l, k⟩ := runJ_ok n r _ h _ lv _ _ _ e
      refine ⟨l.trans put_len, fun hq => ?_⟩
      obtain ⟨t1, e1, a1⟩ := k hq
      exact ⟨t1, by simp only [runR, hw, Bool.false_eq_true, if_false, e1], a1⟩
    unfold runJ at e
    dsimp only at e
    split at e
    · rename_i hg
      exact go hn (by simp [want, hg]) e
    · rename_i i p hg
      split at e
      · rename_i m hl hr hk b hb
        split at e
        · rename_i q1 t1 n1 q2 t2 n2 e1 e2
          split at e
          · rename_i t3 hm
            split at e
            · rename_i q3 t4 hk' e3
              cases e
              obtain ⟨l1, k1⟩ := runJ_ok n _ _ h _ _ _ _ _ e1
              obtain ⟨l2, k2⟩ := runJ_ok n _ _ h _ _ _ _ _ e2
              obtain ⟨l3, k3⟩ := runJ_ok n _ _ h _ _ _ _ _ e3
              rw [List.length_set] at l1 l2
              have l4 := (mergeF_ok _ _ _ hm l1 l2).1
              refine ⟨l3.trans l4, fun hq => ?_⟩
              simp only [Bool.and_eq_true] at hq
              have hs : t.set i (.bool b) = t := set_same hb (by intro q; cases q)
              obtain ⟨u, eu, au⟩ : ∃ u, runR (T.env Γ) ((o :: r).take m) t h = some (u, h) ∧ Ag (fun d => isLive d ((o :: r).drop m) lv = false) u (if b then t1 else t2) := by
                cases b with
                | true => rw [hs] at k1; exact k1 (by simpa using hq.1)
                | false => rw [hs] at k2; exact k2 (by simpa using hq.1)
              have a3 := join_ag eu l1 l2 hm au
              obtain ⟨t5, e5, a5⟩ := k3 hq.2
              obtain ⟨t6, e6, a6⟩ := runR_ins _ _ t3 u h _ _ a3.symm (fun i hi => hi) e5
              refine ⟨t6, ?_, a6.symm.trans a5⟩
              have := runR_app ((o :: r).take m) ((o :: r).drop m) t h u h eu
              rw [List.take_append_drop] at this
              rw [this, e6]
            · cases e
          · cases e
        · cases e
      · rename_i hn c hb
        split at e
        · rename_i hc
          exact go hn (by simp only [want, hg, hb, hc]) e
        · rename_i hc
          exact skip (by simp only [want, hg, hb]; simpa using hc) hn e
      · rename_i hn hb
        refine skip ?_ hn e
        simp only [want, hg]
      · cases e


/-! ### The tree -/
def brU (b : Bool) (hn : Hj) (kt kf : Hj → Tr) : Tr := match hn with
  | .sym l r => .br b (kt l) (kf r)
  | .con n => match b with
    | true => kt n
    | false => kf n
  | .yes n => .req b (kt n)
  | .no n => .req (!b) (kf n)
  | _ => .fail
theorem brU_holds {b : Bool} {hn : Hj} {kt kf : Hj → Tr} {Q : Value → Heap → Prop} (h : (brU b hn kt kf).holds Q) : (b = true ∧ ∃ n, (kt n).holds Q) ∨ (b = false ∧ ∃ n, (kf n).holds Q) := by
  unfold brU at h
  split at h
  · cases b with
    | true => exact .inl ⟨rfl, _, h.1 rfl⟩
    | false => exact .inr ⟨rfl, _, h.2 rfl⟩
  · cases b with
    | true => exact .inl ⟨rfl, _, h⟩
    | false => exact .inr ⟨rfl, _, h⟩
  · exact .inl ⟨h.1, _, h.2⟩
  · exact .inr ⟨by simpa using h.1, _, h.2⟩
  · cases h

/-- An operation with its operands' values. -/
def cl (t : Fr) (o : Operand) : Operand := .const (ev t o)
def opC (Γ : Env) (k : IK) (t : Fr) (h : Heap) : Option (Value × Heap) := match k with
  | .load x n => opA Γ (.load (cl t x) n) [] h
  | .store x v n => opA Γ (.store (cl t x) (cl t v) n) [] h
  | .iadr e a x i => opA Γ (.iadr e a (cl t x) (cl t i)) [] h
  | .idx e l n x i => opA Γ (.idx e l n (cl t x) (cl t i)) [] h
  | .sidx x i => opA Γ (.sidx (cl t x) (cl t i)) [] h
  | .slice e x lo hi mx => opA Γ (.slice e (cl t x) (lo.map (cl t)) (hi.map (cl t)) (mx.map (cl t))) [] h
  | .append e b s x => opA Γ (.append e b (cl t s) (cl t x)) [] h
  | .copy e d s => opA Γ (.copy e (cl t d) (cl t s)) [] h
  | .mkslice e b z l c => opA Γ (.mkslice e b z (cl t l) (cl t c)) [] h
  | .call f args => opA Γ (.call f (args.map (cl t))) [] h
  | .bin op x y => opA Γ (.bin op (cl t x) (cl t y)) [] h
  | .eqv a b x y => opA Γ (.eqv a b (cl t x) (cl t y)) [] h
  | .conv k x => opA Γ (.conv k (cl t x)) [] h
  | .len x => opA Γ (.len (cl t x)) [] h
  | .mx x y => opA Γ (.mx (cl t x) (cl t y)) [] h
  | .mn x y => opA Γ (.mn (cl t x) (cl t y)) [] h
  | .slen x => opA Γ (.slen (cl t x)) [] h
  | .b2s x => opA Γ (.b2s (cl t x)) [] h
  | .strsl x lo hi => opA Γ (.strsl (cl t x) (lo.map (cl t)) (hi.map (cl t))) [] h
  | k => opA Γ k t h
theorem ev_cl (t : Fr) (o : Operand) : ev [] (cl t o) = ev t o := rfl
theorem map_cl (t : Fr) (o : Option Operand) : (o.map (cl t)).map (ev []) = o.map (ev t) := by cases o <;> rfl
theorem opC_eq {Γ : Env} {k : IK} {t : Fr} {h : Heap} : opC Γ k t h = opA Γ k t h := by
  cases k <;> first
    | rfl
    | (simp only [opC, opA, pureA, ev_cl]; done)
    | (simp only [opC, opA, pureA, ev_cl, map_cl]; done)
    | (simp only [opC, opA, List.map_map]; rfl)

def opU0 (T : Plain) (Γ : Env) (k : IK) (t : Fr) (h : Heap) (hn : Hj) (K : Value → Heap → Hj → Tr) : Tr :=
  match k with
  | .pick c a b => match ev t c with
    | .bool c => match hn with
      | .val n => match mergeV c (ev t a) (ev t b) with
        | some v => K v h n
        | none => .fail
      | hn => brU c hn (fun n => K (ev t a) h n) (fun n => K (ev t b) h n)
    | _ => .fail
  | .bin .quo x y => divT .quo (ev t x) (ev t y) fun v => K v h hn
  | .bin .rem x y => divT .rem (ev t x) (ev t y) fun v => K v h hn
  | .call f args => match T.find f (args.map (ev t)) with
    | some (b, v) => .req b (K v h hn)
    | none => match Γ f (args.map (ev t)) h with
      | some (v, h') => K v h' hn
      | none => .fail
  | k => match opA (T.env Γ) k t h with
    | some (v, h') => K v h' hn
    | none => .fail

theorem opU0_holds {T : Plain} {Γ : Env} {k : IK} {t : Fr} {h : Heap} {hn : Hj} {K : Value → Heap → Hj → Tr} {Q : Value → Heap → Prop} (e : (opU0 T Γ k t h hn K).holds Q) :
    ∃ v h' n, opA (T.env Γ) k t h = some (v, h') ∧ (K v h' n).holds Q := by
  unfold opU0 at e
  split at e
  · rename_i c a b
    split at e
    · rename_i c' hc
      split at e
      · rename_i n
        split at e
        · rename_i v hm
          exact ⟨v, h, n, by simp only [opA, pureA, hc, mergeV_eq hm], e⟩
        · cases e
      · rcases brU_holds e with ⟨hb, n, hk⟩ | ⟨hb, n, hk⟩
        · subst hb; exact ⟨_, _, n, by simp only [opA, pureA, hc]; rfl, hk⟩
        · subst hb; exact ⟨_, _, n, by simp only [opA, pureA, hc]; rfl, hk⟩
    · cases e
  · rename_i x y
    unfold divT at e
    split at e
    · rename_i k a k' b hx hy
      split at e
      · rename_i hkk
        obtain ⟨h1, h2⟩ := e
        have hb : ¬ b = 0 := by simpa using h1
        exact ⟨_, _, _, by simp only [opA, pureA, hx, hy, binA, hkk, if_true, intBin, hb, if_false], h2⟩
      · cases e
    · cases e
  · rename_i x y
    unfold divT at e
    split at e
    · rename_i k a k' b hx hy
      split at e
      · rename_i hkk
        obtain ⟨h1, h2⟩ := e
        have hb : ¬ b = 0 := by simpa using h1
        exact ⟨_, _, _, by simp only [opA, pureA, hx, hy, binA, hkk, if_true, intBin, hb, if_false], h2⟩
      · cases e
    · cases e
  · rename_i f args
    split at e
    · rename_i b v hv
      obtain ⟨h1, h2⟩ := e
      exact ⟨v, h, _, by simp only [opA, Plain.env, hv, h1, if_true], h2⟩
    · rename_i hv
      split at e
      · rename_i v h' hv2; exact ⟨v, h', _, by simp only [opA, Plain.env, hv, hv2], e⟩
      · cases e
  · split at e
    · rename_i v h' hv; exact ⟨v, h', _, hv, e⟩
    · cases e

def opU (T : Plain) (Γ : Env) (d : Nat) (k : IK) (t : Fr) (h : Heap) (hn : Hj) (K : Value → Heap → Hj → Tr) : Tr :=
  match hn with
  | .use j v h' n => if j = d then .claim (opC (T.env Γ) k t h = some (v, h')) (K v h' n) else opU0 T Γ k t h hn K
  | hn => opU0 T Γ k t h hn K
theorem opU_holds {T : Plain} {Γ : Env} {d : Nat} {k : IK} {t : Fr} {h : Heap} {hn : Hj} {K : Value → Heap → Hj → Tr} {Q : Value → Heap → Prop} (e : (opU T Γ d k t h hn K).holds Q) :
    ∃ v h' n, opA (T.env Γ) k t h = some (v, h') ∧ (K v h' n).holds Q := by
  unfold opU at e
  split at e
  · rename_i j v h' n
    split at e
    · obtain ⟨e1, e2⟩ := e
      exact ⟨v, h', n, by rw [← opC_eq]; exact e1, e2⟩
    · exact opU0_holds e
  · exact opU0_holds e

def runU (T : Plain) (Γ : Env) : Nat → List IOp → Fr → Heap → Hj → Lv → (Fr → Heap → Hj → Tr) → Tr
  | 0, _, _, _, _, _, _ => .fail
  | _ + 1, [], t, h, hn, _, K => K t h hn
  | n + 1, o :: r, t, h, hn, lv, K =>
    let go (t : Fr) (hn : Hj) : Tr := opU T Γ (o.dst.getD 9999) o.k t h hn fun v h' hn => runU T Γ n r (put t o.dst v) h' hn lv K
    let skip (t : Fr) (hn : Hj) : Tr := runU T Γ n r (put t o.dst undef) h hn lv K
    match o.g with
    | none => go t hn
    | some (i, p) => match t.getD i undef with
      | .bool b => match hn with
        | .join m hl hr hk =>
          let lj : Lv := fun d => isLive d ((o :: r).drop m) lv
          match runJ T Γ n ((o :: r).take m) (t.set i (.bool true)) h hl lj, runJ T Γ n ((o :: r).take m) (t.set i (.bool false)) h hr lj with
          | some (q1, t1, _), some (q2, t2, _) => match mergeF b lj t1 t2 (((o :: r).take m).filterMap (·.dst)) t with
            | some t3 => .req (bif b then q1 else q2) (runU T Γ n ((o :: r).drop m) t3 h hk lv K)
            | none => .fail
          | _, _ => .fail
        | hn => brU b hn (fun n => match p with | true => go (t.set i (.bool true)) n | false => skip (t.set i (.bool true)) n) (fun n => match p with | true => skip (t.set i (.bool false)) n | false => go (t.set i (.bool false)) n)
      | _ => skip t hn

theorem runU_holds {T : Plain} {Γ : Env} {Q : Value → Heap → Prop} {K : Fr → Heap → Hj → Tr} : ∀ (n : Nat) (l : List IOp) (t : Fr) (h : Heap) (hn : Hj) (lv : Lv), (runU T Γ n l t h hn lv K).holds Q →
    ∃ t' h' n s, runR (T.env Γ) l t h = some (t', h') ∧ Ag (fun i => lv i = false) t' s ∧ (K s h' n).holds Q
  | 0, _, _, _, _, _, e => by cases e
  | n + 1, [], t, h, hn, lv, e => ⟨t, h, hn, t, rfl, .refl t, e⟩
  | n + 1, o :: r, t, h, hn, lv, e => by
    have go : ∀ hn, want t o.g = true → (opU T Γ (o.dst.getD 9999) o.k t h hn fun v h' hn => runU T Γ n r (put t o.dst v) h' hn lv K).holds Q →
        ∃ t' h' n s, runR (T.env Γ) (o :: r) t h = some (t', h') ∧ Ag (fun i => lv i = false) t' s ∧ (K s h' n).holds Q := by
      intro hn hw e
      obtain ⟨v, h1, n1, h2, h3⟩ := opU_holds e
      obtain ⟨t', h', n2, s, h4, h5, h6⟩ := runU_holds n r _ _ _ _ h3
      exact ⟨t', h', n2, s, by simp only [runR, hw, if_true, h2, h4], h5, h6⟩
    have skip : ∀ hn, want t o.g = false → (runU T Γ n r (put t o.dst undef) h hn lv K).holds Q →
        ∃ t' h' n s, runR (T.env Γ) (o :: r) t h = some (t', h') ∧ Ag (fun i => lv i = false) t' s ∧ (K s h' n).holds Q := by
      intro hn hw e
      obtain ⟨t', h', n2, s, h4, h5, h6⟩ := runU_holds n r _ _ _ _ e
      exact ⟨t', h', n2, s, by simp only [runR, hw, Bool.false_eq_true, if_false, h4], h5, h6⟩
    unfold runU at e
    dsimp only at e
    split at e
    · rename_i hg
      exact go hn (by simp [want, hg]) e
    · rename_i i p hg
      split at e
      · rename_i b hb
        have hs : t.set i (.bool b) = t := set_same hb (by intro q; cases q)
        split at e
        · rename_i m hl hr hk
          split at e
          · rename_i q1 t1 n1 q2 t2 n2 e1 e2
            split at e
            · rename_i t3 hm
              obtain ⟨hq, e⟩ := e
              obtain ⟨l1, k1⟩ := runJ_ok n _ _ h _ _ _ _ _ e1
              obtain ⟨l2, k2⟩ := runJ_ok n _ _ h _ _ _ _ _ e2
              rw [List.length_set] at l1 l2
              obtain ⟨u, eu, au⟩ : ∃ u, runR (T.env Γ) ((o :: r).take m) t h = some (u, h) ∧ Ag (fun d => isLive d ((o :: r).drop m) lv = false) u (if b then t1 else t2) := by
                cases b with
                | true => rw [hs] at k1; exact k1 (by simpa using hq)
                | false => rw [hs] at k2; exact k2 (by simpa using hq)
              have a3 := join_ag eu l1 l2 hm au
              obtain ⟨t', h', n2, s, h4, h5, h6⟩ := runU_holds n _ _ _ _ _ e
              obtain ⟨t6, e6, a6⟩ := runR_ins _ _ t3 u h _ _ a3.symm (fun i hi => hi) h4
              refine ⟨t6, h', n2, s, ?_, a6.symm.trans h5, h6⟩
              have := runR_app ((o :: r).take m) ((o :: r).drop m) t h u h eu
              rw [List.take_append_drop] at this
              rw [this, e6]
            · cases e
          · cases e
        · rcases brU_holds e with ⟨hq, m, hk⟩ | ⟨hq, m, hk⟩
          · subst hq
            rw [hs] at hk
            cases p with
            | true => exact go m (by simp only [want, hg, hb]; rfl) hk
            | false => exact skip m (by simp only [want, hg, hb]; rfl) hk
          · subst hq
            rw [hs] at hk
            cases p with
            | true => exact skip m (by simp only [want, hg, hb]; rfl) hk
            | false => exact go m (by simp only [want, hg, hb]; rfl) hk
      · rename_i hb
        refine skip hn ?_ e
        simp only [want, hg]

def opQ (T : Plain) (Γ : Env) (k : IK) (t : Fr) (h : Heap) : Option (Bool × Value × Heap) :=
  match k with
  | .bin .quo x y => match ev t x, ev t y with
    | .int k a, .int k' b => if k = k' then some (!(decide (b = 0)), .int k (k.wrap (a.tdiv b)), h) else none
    | _, _ => none
  | .bin .rem x y => match ev t x, ev t y with
    | .int k a, .int k' b => if k = k' then some (!(decide (b = 0)), .int k (a.tmod b), h) else none
    | _, _ => none
  | .call f args => match T.find f (args.map (ev t)) with
    | some (b, v) => some (b, v, h)
    | none => match Γ f (args.map (ev t)) h with
      | some (v, h') => some (true, v, h')
      | none => none
  | k => (opA (T.env Γ) k t h).map fun p => (true, p.1, p.2)
theorem opQ_ok {T : Plain} {Γ : Env} {k : IK} {t : Fr} {h h' : Heap} {q : Bool} {v : Value} (e : opQ T Γ k t h = some (q, v, h')) (hq : q = true) : opA (T.env Γ) k t h = some (v, h') := by
  unfold opQ at e
  split at e
  · split at e
    · rename_i hx hy
      split at e
      · rename_i hkk
        cases e
        simp only [Bool.not_eq_true', decide_eq_false_iff_not] at hq
        simp only [opA, pureA, hx, hy, binA, hkk, if_true, intBin, hq, if_false]
      · cases e
    · cases e
  · split at e
    · rename_i hx hy
      split at e
      · rename_i hkk
        cases e
        simp only [Bool.not_eq_true', decide_eq_false_iff_not] at hq
        simp only [opA, pureA, hx, hy, binA, hkk, if_true, intBin, hq, if_false]
      · cases e
    · cases e
  · rename_i f args
    split at e
    · rename_i b w hf
      cases e
      simp only [opA, Plain.env, hf]
      exact if_pos hq
    · rename_i hf
      split at e
      · rename_i w h1 hw
        cases e
        simp only [opA, Plain.env, hf, hw]
      · cases e
  · cases ho : opA (T.env Γ) k t h with
    | none => rw [ho] at e; cases e
    | some p => rw [ho] at e; cases e; rfl
def runQ (T : Plain) (Γ : Env) : List IOp → Fr → Heap → Option (Bool × Fr × Heap)
  | [], t, h => some (true, t, h)
  | o :: r, t, h => if want t o.g then match opQ T Γ o.k t h with
      | some (q, v, h') => match runQ T Γ r (put t o.dst v) h' with
        | some (q2, t2, h2) => some (q && q2, t2, h2)
        | none => none
      | none => none
    else runQ T Γ r (put t o.dst undef) h
theorem runQ_ok {T : Plain} {Γ : Env} : ∀ (l : List IOp) (t : Fr) (h : Heap) (q : Bool) (t' : Fr) (h' : Heap), runQ T Γ l t h = some (q, t', h') → q = true → runR (T.env Γ) l t h = some (t', h')
  | [], t, h, q, t', h', e, _ => by cases e; rfl
  | o :: r, t, h, q, t', h', e, hq => by
    simp only [runQ] at e
    simp only [runR]
    split at e
    · rename_i hw
      rw [if_pos hw]
      split at e
      · rename_i q1 v h1 ho
        split at e
        · rename_i q2 t2 h2 hr
          cases e
          simp only [Bool.and_eq_true] at hq
          rw [opQ_ok ho hq.1]
          exact runQ_ok r _ _ _ _ _ hr hq.2
        · cases e
      · cases e
    · rename_i hw
      rw [if_neg hw]
      exact runQ_ok r _ _ _ _ _ e hq
def crossQ (T : Plain) (Γ : Env) (os : List IOp) (t : Fr) (h : Heap) : List (Nat × Nat) → Bool
  | [] => true
  | (i, j) :: r => (match os[i]?, runQ T Γ (os.take i) t h, runQ T Γ (os.take (if i < j then j + 1 else j)) t h with
    | some x, some (q1, ti, hi), some (q2, _, hj) => q1 && (q2 && (if want ti x.g then match opQ T Γ x.k ti hi, opQ T Γ x.k ti hj with
      | some (q3, v, _), some (q4, v', _) => q3 && (q4 && eqV v v')
      | _, _ => false
      else true))
    | _, _, _ => false) && crossQ T Γ os t h r
theorem crossQ_ok {T : Plain} {Γ : Env} {os : List IOp} {t : Fr} {h : Heap} : ∀ (X : List (Nat × Nat)), crossQ T Γ os t h X = true → crossB (T.env Γ) os t h X = true
  | [], _ => rfl
  | (i, j) :: r, e => by
    simp only [crossQ, Bool.and_eq_true] at e
    simp only [crossB, Bool.and_eq_true]
    refine ⟨?_, crossQ_ok r e.2⟩
    have e1 := e.1
    split at e1
    · rename_i x q1 ti hi q2 tj hj hx r1 r2
      simp only [Bool.and_eq_true] at e1
      rw [hx, runQ_ok _ _ _ _ _ _ r1 e1.1, runQ_ok _ _ _ _ _ _ r2 e1.2.1]
      dsimp only
      have e2 := e1.2.2
      split at e2
      · rename_i hw
        rw [if_pos hw]
        split at e2
        · rename_i q3 v h3 q4 v' h4 o1 o2
          simp only [Bool.and_eq_true] at e2
          rw [opQ_ok o1 e2.1, opQ_ok o2 e2.2.1]
          exact e2.2.2
        · cases e2
      · rename_i hw
        rw [if_neg hw]
    · cases e1

/-! ### A drawn region, op by op -/
inductive Ch (Γ : Env) : List IOp → Fr → Heap → List (Fr × Heap × Value) → Fr → Heap → Prop
  | nil (t : Fr) (h : Heap) : Ch Γ [] t h [] t h
  | cons {o : IOp} {r : List IOp} {t : Fr} {h : Heap} {v : Value} {h1 : Heap} {S : List (Fr × Heap × Value)} {t' : Fr} {h' : Heap} : o.g = none → opA Γ o.k t h = some (v, h1) → Ch Γ r (put t o.dst v) h1 S t' h' → Ch Γ (o :: r) t h ((t, h, v) :: S) t' h'
theorem Ch.run {Γ : Env} {os : List IOp} {t : Fr} {h : Heap} {S : List (Fr × Heap × Value)} {t' : Fr} {h' : Heap} (c : Ch Γ os t h S t' h') : runR Γ os t h = some (t', h') := by
  induction c with
  | nil => rfl
  | cons hg ho _ ih => simp only [runR, hg, want, if_true, ho, ih]
def hAt (S : List (Fr × Heap × Value)) (hf : Heap) (j : Nat) : Option Heap := match S, j with
  | [], 0 => some hf
  | [], _ + 1 => none
  | s :: _, 0 => some s.2.1
  | _ :: r, j + 1 => hAt r hf j
theorem Ch.heap {Γ : Env} {os : List IOp} {t : Fr} {h : Heap} {S : List (Fr × Heap × Value)} {t' : Fr} {h' : Heap} (c : Ch Γ os t h S t' h') : ∀ (j : Nat) (hj : Heap), hAt S h' j = some hj → ∃ tj, runR Γ (os.take j) t h = some (tj, hj) := by
  induction c with
  | nil t h =>
    intro j hj e
    cases j with
    | zero => simp only [hAt, Option.some.injEq] at e; subst e; exact ⟨t, rfl⟩
    | succ j => simp [hAt] at e
  | cons hg ho _ ih =>
    intro j hj e
    cases j with
    | zero => simp only [hAt, Option.some.injEq] at e; subst e; exact ⟨_, rfl⟩
    | succ j =>
      obtain ⟨tj, e1⟩ := ih j hj e
      exact ⟨tj, by simp only [List.take_succ_cons, runR, hg, want, if_true, ho, e1]⟩
theorem Ch.at_ {Γ : Env} {os : List IOp} {t : Fr} {h : Heap} {S : List (Fr × Heap × Value)} {t' : Fr} {h' : Heap} (c : Ch Γ os t h S t' h') : ∀ (i : Nat) (x : IOp) (ti : Fr) (hi : Heap) (vi : Value), os[i]? = some x → S[i]? = some (ti, hi, vi) →
    runR Γ (os.take i) t h = some (ti, hi) ∧ x.g = none ∧ ∃ h1, opA Γ x.k ti hi = some (vi, h1) := by
  induction c with
  | nil => intro i x ti hi vi e; simp at e
  | cons hg ho _ ih =>
    intro i x ti hi vi e1 e2
    cases i with
    | zero => simp at e1 e2; obtain ⟨rfl, rfl, rfl⟩ := e2; subst e1; exact ⟨rfl, hg, _, ho⟩
    | succ i =>
      obtain ⟨a, b, d⟩ := ih i x ti hi vi (by simpa using e1) (by simpa using e2)
      exact ⟨by simp only [List.take_succ_cons, runR, hg, want, if_true, ho, a], b, d⟩

def chainT (T : Plain) (Γ : Env) : List IOp → List (Option (Value × Heap)) → Fr → Heap → (List (Fr × Heap × Value) → Fr → Heap → Tr) → Tr
  | [], _, t, h, K => K [] t h
  | _ :: _, [], _, _, _ => .fail
  | o :: r, v :: vs, t, h, K => match o.g with
    | some _ => .fail
    | none => match v with
      | some (v, h1) => .claim (opC (T.env Γ) o.k t h = some (v, h1)) (chainT T Γ r vs (put t o.dst v) h1 fun S t' h' => K ((t, h, v) :: S) t' h')
      | none => match opQ T Γ o.k t h with
        | some (q, v, h1) => .req q (chainT T Γ r vs (put t o.dst v) h1 fun S t' h' => K ((t, h, v) :: S) t' h')
        | none => .fail
theorem chainT_holds {T : Plain} {Γ : Env} {Q : Value → Heap → Prop} : ∀ (os : List IOp) (vs : List (Option (Value × Heap))) (t : Fr) (h : Heap) (K : List (Fr × Heap × Value) → Fr → Heap → Tr), (chainT T Γ os vs t h K).holds Q →
    ∃ S t' h', Ch (T.env Γ) os t h S t' h' ∧ (K S t' h').holds Q
  | [], _, t, h, K, e => ⟨[], t, h, .nil t h, e⟩
  | o :: r, [], t, h, K, e => by cases e
  | o :: r, v :: vs, t, h, K, e => by
    simp only [chainT] at e
    split at e
    · cases e
    · rename_i hg
      split at e
      · rename_i v h1
        obtain ⟨e1, e2⟩ := e
        obtain ⟨S, t', h', c, q⟩ := chainT_holds r vs _ _ _ e2
        exact ⟨_, t', h', .cons hg (by rw [← opC_eq]; exact e1) c, q⟩
      · split at e
        · rename_i q v h1 ho
          obtain ⟨e1, e2⟩ := e
          obtain ⟨S, t', h', c, q⟩ := chainT_holds r vs _ _ _ e2
          exact ⟨_, t', h', .cons hg (opQ_ok ho e1) c, q⟩
        · cases e
def pairT (Γ : Env) (os : List IOp) (S : List (Fr × Heap × Value)) (hf : Heap) : List (Nat × Nat) → Tr → Tr
  | [], t => t
  | (i, j) :: r, t => match os[i]?, S[i]?, hAt S hf (if i < j then j + 1 else j) with
    | some x, some (ti, _, vi), some hj => .claim ((∃ h2, opC Γ x.k ti hj = some (vi, h2)) ∧ eqV vi vi = true) (pairT Γ os S hf r t)
    | _, _, _ => .fail
theorem pairT_holds {Γ : Env} {os : List IOp} {t : Fr} {h : Heap} {S : List (Fr × Heap × Value)} {t' : Fr} {h' : Heap} (c : Ch Γ os t h S t' h') {Q : Value → Heap → Prop} {k : Tr} : ∀ (X : List (Nat × Nat)), (pairT Γ os S h' X k).holds Q → crossB Γ os t h X = true ∧ k.holds Q
  | [], e => ⟨rfl, e⟩
  | (i, j) :: r, e => by
    simp only [pairT] at e
    split at e
    · rename_i x ti hi vi hj hx hS hH
      obtain ⟨⟨⟨h2, e1⟩, e2⟩, e3⟩ := e
      obtain ⟨q1, q2⟩ := pairT_holds c r e3
      obtain ⟨a1, a2, h1, a3⟩ := c.at_ i x ti hi vi hx hS
      obtain ⟨tj, b1⟩ := c.heap _ _ hH
      refine ⟨?_, q2⟩
      rw [opC_eq] at e1
      simp only [crossB, hx, a1, b1, a2, want, if_true, a3, e1, e2, q1, Bool.and_self]
    · cases e

def execU (T : Plain) (Γ : Env) : Nat → IL → Fr → Heap → Hj → Lv → (Ex → Fr → Heap → Hj → Tr) → Tr
  | 0, _, _, _, _, _, _ => .fail
  | _ + 1, .skip, t, h, hn, _, K => K .normal t h hn
  | _ + 1, .reg ops, t, h, hn, lv, K => runU T Γ (2 * ops.length + 10) ops t h hn lv (K .normal)
  | _ + 1, .dreg ops X, t, h, hn, lv, K => match hn with
    | .crs vals n => chainT T Γ ops vals t h fun S t' h' => pairT (T.env Γ) ops S h' X (K .normal t' h' n)
    | hn => .req (crossQ T Γ ops t h X) (runU T Γ (2 * ops.length + 10) ops t h hn lv (K .normal))
  | n + 1, .seq x y, t, h, hn, lv, K => execU T Γ n x t h hn (fun i => exL i y || lv i) fun e t' h' hn' => match e with
    | .normal => execU T Γ n y t' h' hn' lv K
    | e => K e t' h' hn'
  | n + 1, .ite c x y, t, h, hn, lv, K => match ev t c with
    | .bool b => brU b hn (fun m => execU T Γ n x t h m lv K) (fun m => execU T Γ n y t h m lv K)
    | _ => .fail
  | n + 1, .block id x, t, h, hn, lv, K =>
    let walk (_ : Unit) : Tr := execU T Γ n x t h hn lv fun e t' h' hn' => match e with
      | .exit i => if i = id then K .normal t' h' hn' else K (.exit i) t' h' hn'
      | e => K e t' h' hn'
    match hn with
    | .lp j l t1 h1 m => if j = id then if (List.range t.length).all (fun i => !(lv i) || inL l i) then .claim (Wp (T.env Γ) (inL l) (.block id x) (norm (fun i => exL i x || inL l i) 0 t) h fun e s h' => e = .normal ∧ s = t1 ∧ h' = h1) (K .normal t1 h1 m) else .fail else walk ()
    | .lp2 j l b t1 h1 t2 h2 m1 m2 => if j = id then if (List.range t.length).all (fun i => !(lv i) || inL l i) then .claim (Wp (T.env Γ) (inL l) (.block id x) (norm (fun i => exL i x || inL l i) 0 t) h fun e s h' => if b then e = .normal ∧ s = t1 ∧ h' = h1 else e = .ret ∧ s = t2 ∧ h' = h2) (.br b (K .normal t1 h1 m1) (K .ret t2 h2 m2)) else .fail else walk ()
    | _ => walk ()
  | n + 1, .loop x, t, h, hn, lv, K => execU T Γ n x t h hn (fun i => exL i x || lv i) fun e t' h' hn' => match e with
    | .normal => execU T Γ n (.loop x) t' h' hn' lv K
    | e => K e t' h' hn'
  | _ + 1, .exit id, t, h, hn, _, K => K (.exit id) t h hn
  | _ + 1, .ret, t, h, hn, _, K => K .ret t h hn

theorem thenK_mono {J J' : Fr → Heap → Prop} {K K' : Post2} (hj : ∀ t h, J t h → J' t h) (hk : ∀ e t h, K e t h → K' e t h) : ∀ e t h, thenK J K e t h → thenK J' K' e t h := fun e t h q => by
  cases e with
  | normal => exact hj t h q
  | ret => exact hk _ t h q
  | exit id => exact hk _ t h q

theorem execU_holds {T : Plain} {Γ : Env} {Q : Value → Heap → Prop} : ∀ (n : Nat) (x : IL) (t : Fr) (h : Heap) (hn : Hj) (lv : Lv) (K : Ex → Fr → Heap → Hj → Tr), (execU T Γ n x t h hn lv K).holds Q →
    Wp (T.env Γ) lv x t h fun e s h' => ∃ m, (K e s h' m).holds Q
  | 0, x, t, h, hn, lv, K, e => by cases e
  | n + 1, x, t, h, hn, lv, K, e => by
    cases x with
    | skip => exact ⟨1, _, _, _, _, rfl, .refl _, _, e⟩
    | exit id => exact ⟨1, _, _, _, _, rfl, .refl _, _, e⟩
    | ret => exact ⟨1, _, _, _, _, rfl, .refl _, _, e⟩
    | reg ops =>
      obtain ⟨t', h', m, s, h1, a, h2⟩ := runU_holds _ ops t h hn lv e
      exact ⟨1, _, _, _, s, by simp only [execF, h1], a, m, h2⟩
    | dreg ops X =>
      simp only [execU] at e
      split at e
      · obtain ⟨S, t', h', c, e⟩ := chainT_holds _ _ _ _ _ e
        obtain ⟨q1, q2⟩ := pairT_holds c X e
        exact ⟨1, _, _, _, _, by simp only [execF, q1, if_true, c.run], .refl _, _, q2⟩
      · obtain ⟨h0, e⟩ := e
        obtain ⟨t', h', m, s, h1, a, h2⟩ := runU_holds _ ops t h _ lv e
        exact ⟨1, _, _, _, s, by simp only [execF, crossQ_ok X h0, if_true, h1], a, m, h2⟩
    | seq x y =>
      refine Wp.seq ((execU_holds n x t h hn _ _ e).mono fun e1 s1 h1 ⟨m1, q2⟩ => ?_)
      cases e1 with
      | normal => exact execU_holds n y s1 h1 m1 lv K q2
      | ret => exact ⟨m1, q2⟩
      | exit id => exact ⟨m1, q2⟩
    | ite c x y =>
      simp only [execU] at e
      split at e
      · rename_i b hb
        rcases brU_holds e with ⟨hq, m, hk⟩ | ⟨hq, m, hk⟩
        · subst hq
          exact Wp.iteT hb (execU_holds n x t h m lv K hk)
        · subst hq
          exact Wp.iteF hb (execU_holds n y t h m lv K hk)
      · cases e
    | block id x =>
      have walk : (execU T Γ n x t h hn lv fun e t' h' hn' => match e with
          | .exit i => if i = id then K .normal t' h' hn' else K (.exit i) t' h' hn'
          | e => K e t' h' hn').holds Q → Wp (T.env Γ) lv (.block id x) t h fun e s h' => ∃ m, (K e s h' m).holds Q := by
        intro e
        refine Wp.block ((execU_holds n x t h hn lv _ e).mono fun e1 s1 h1 ⟨m1, q2⟩ => ?_)
        cases e1 with
        | normal => exact ⟨m1, q2⟩
        | ret => exact ⟨m1, q2⟩
        | exit i =>
          dsimp only at q2
          simp only [endK]
          split at q2
          · rename_i hi; rw [if_pos hi]; exact ⟨m1, q2⟩
          · rename_i hi; rw [if_neg hi]; exact ⟨m1, q2⟩
      have back : ∀ {K' : Post2} (l : List Nat), (List.range t.length).all (fun i => !(lv i) || inL l i) = true → Wp (T.env Γ) (inL l) (.block id x) (norm (fun i => exL i x || inL l i) 0 t) h K' → Wp (T.env Γ) lv (.block id x) t h K' := fun l hl w => by
        refine Wp.lessN (Wp.ag (norm_ag (fun i => exL i x || inL l i) t) w) fun i hi q => ?_
        rw [List.all_eq_true] at hl
        have := hl i (List.mem_range.2 hi)
        rw [q] at this
        simpa using this
      simp only [execU] at e
      split at e
      · split at e
        · split at e
          · rename_i hl
            exact (back _ hl e.1).mono fun e1 s1 h1 ⟨q1, q2, q3⟩ => by subst q1; subst q2; subst q3; exact ⟨_, e.2⟩
          · cases e
        · exact walk e
      · split at e
        · split at e
          · rename_i hl
            obtain ⟨e1, e2, e3⟩ := e
            refine (back _ hl e1).mono fun e1 s1 h1 q => ?_
            split at q
            · rename_i hb
              obtain ⟨q1, q2, q3⟩ := q
              subst q1; subst q2; subst q3; exact ⟨_, e2 hb⟩
            · rename_i hb
              obtain ⟨q1, q2, q3⟩ := q
              subst q1; subst q2; subst q3; exact ⟨_, e3 (by simpa using hb)⟩
          · cases e
        · exact walk e
      · exact walk e
    | loop x =>
      refine Wp.loop1 ((execU_holds n x t h hn _ _ e).mono fun e1 s1 h1 ⟨m1, q2⟩ => ?_)
      cases e1 with
      | normal => exact execU_holds n (.loop x) s1 h1 m1 lv K q2
      | ret => exact ⟨m1, q2⟩
      | exit i => exact ⟨m1, q2⟩

/-- A piece's end, as a value. -/
def pk (e : Ex) (t : Fr) : Value := .tuple ⟨(match e with | .normal => .bool true | .ret => .bool false | .exit i => .int .i64 i) :: t⟩
theorem pk_inj {e e' : Ex} {t t' : Fr} (h : pk e t = pk e' t') : e = e' ∧ t = t' := by
  simp only [pk, Value.tuple.injEq, Array.mk.injEq, List.cons.injEq] at h
  refine ⟨?_, h.2⟩
  have := h.1
  cases e <;> cases e' <;> first | rfl | (simp at this; done) | (congr 1; simp only [Value.int.injEq] at this; omega)
def outT (lv : Lv) (e : Ex) (t : Fr) (h : Heap) (_ : Hj) : Tr := .ret (pk e (norm lv 0 t)) h
def outP (K : Post2) : Value → Heap → Prop := fun v h => ∀ e t, v = pk e t → K e t h
theorem outP_pk {K : Post2} {e : Ex} {t : Fr} {h : Heap} (k : K e t h) : outP K (pk e t) h := fun e' t' q => by
  obtain ⟨rfl, rfl⟩ := pk_inj q
  exact k
/-- A piece of code, walked. -/
def pieceT (T : Plain) (Γ : Env) (fuel : Nat) (lv : Lv) (x : IL) (hn : Hj) (t : Fr) (h : Heap) : Tr := execU T Γ fuel x t h hn lv (outT lv)
theorem Wp.piece {T : Plain} {Γ : Env} {lv : Lv} {x : IL} {t : Fr} {h : Heap} {K : Post2} (fuel : Nat) (hn : Hj) (e : (pieceT T Γ fuel lv x hn t h).holds (outP K)) : Wp (T.env Γ) lv x t h K := by
  obtain ⟨n, ex, t', h', s, q1, q2, m, q3⟩ := execU_holds fuel x t h hn lv _ e
  exact ⟨n, ex, t', h', norm lv 0 s, q1, q2.trans (norm_ag lv s), q3 _ _ rfl⟩

/-! ### A body in two -/
def splitS : Nat → IL → IL × IL
  | 0, .seq a b => (a, b)
  | n + 1, .seq a b => (.seq a (splitS n b).1, (splitS n b).2)
  | _, x => (.skip, x)
theorem Wp.split {Γ : Env} {lv lv' : Lv} {K : Post2} : ∀ (n : Nat) (x : IL) (t : Fr) (h : Heap), (∀ i, (exL i (splitS n x).2 || lv i) = true → lv' i = true) → Wp Γ lv' (splitS n x).1 t h (thenK (fun t h => Wp Γ lv (splitS n x).2 t h K) K) → Wp Γ lv x t h K
  | 0, x, t, h, hl, w => by
    cases x with
    | seq a b => exact Wp.seq (w.less hl)
    | _ =>
      obtain ⟨m, e, t', h', s, q1, q2, q3⟩ := w
      cases m with
      | zero => cases q1
      | succ m =>
        simp only [splitS, execF] at q1
        cases q1
        exact Wp.ag (q2.mono fun i q => by
          cases r : (exL i _ || lv i) with
          | false => rfl
          | true => have := hl i r; rw [q] at this; cases this) q3
  | n + 1, x, t, h, hl, w => by
    cases x with
    | seq a b =>
      obtain ⟨m, e, t', h', s, q1, q2, q3⟩ := w
      cases m with
      | zero => cases q1
      | succ m =>
        simp only [splitS, execF] at q1
        split at q1
        · rename_i t2 h2 e2
          have w2 : Wp Γ lv b t2 h2 K := Wp.split n b t2 h2 hl ⟨m, e, t', h', s, q1, q2, q3⟩
          exact Wp.seq ⟨m, .normal, t2, h2, t2, e2, .refl _, w2⟩
        · rename_i hne
          have hl2 : ∀ i, lv' i = false → lv i = false := fun i q => by
            cases r : lv i with
            | false => rfl
            | true => have := hl i (by simp [r]); rw [q] at this; cases this
          have w2 : Wp Γ lv a t h K := by
            refine ⟨m, e, t', h', s, q1, q2.mono hl2, ?_⟩
            cases e with
            | normal => exact absurd q1 (hne _ _)
            | ret => exact q3
            | exit id => exact q3
          obtain ⟨m2, e2, t3, h3, s3, r1, r2, r3⟩ := w2
          cases e with
          | normal => exact absurd q1 (hne _ _)
          | ret => exact ⟨m + 1, .ret, t', h', s, by simp only [execF, q1], q2.mono hl2, q3⟩
          | exit id => exact ⟨m + 1, .exit id, t', h', s, by simp only [execF, q1], q2.mono hl2, q3⟩
    | _ =>
      obtain ⟨m, e, t', h', s, q1, q2, q3⟩ := w
      cases m with
      | zero => cases q1
      | succ m =>
        simp only [splitS, execF] at q1
        cases q1
        exact Wp.ag (q2.mono fun i q => by
          cases r : (exL i _ || lv i) with
          | false => rfl
          | true => have := hl i r; rw [q] at this; cases this) q3

theorem Wp.split' {Γ : Env} {lv lv' : Lv} {K : Post2} {n : Nat} {x p q : IL} {t : Fr} {h : Heap} (hs : splitS n x = (p, q)) (hl : ∀ i, (exL i q || lv i) = true → lv' i = true) (w : Wp Γ lv' p t h (thenK (fun t h => Wp Γ lv q t h K) K)) : Wp Γ lv x t h K := by
  have e1 : p = (splitS n x).1 := by rw [hs]
  have e2 : q = (splitS n x).2 := by rw [hs]
  subst e1 e2
  exact Wp.split n x t h hl w

def rdRes : Res → Nat
  | .tmp j => j
  | .cell j _ => j
def resLv (rs : List Res) : Lv := fun i => rs.any fun r => rdRes r == i
theorem resA1_ag {t s : Fr} {h : Heap} {r : Res} {lv : Lv} (ha : Ag (fun i => lv i = false) t s) (hr : lv (rdRes r) = true) : resA1 t h r = resA1 s h r := by
  have key : t.getD (rdRes r) undef = s.getD (rdRes r) undef := ha.2 _ fun q => by
    have q' : lv (rdRes r) = false := q
    rw [hr] at q'; cases q'
  cases r with
  | tmp j =>
    have : t.getD j undef = s.getD j undef := key
    simp only [resA1, this]
  | cell j n =>
    have : ev t (.tmp j) = ev s (.tmp j) := key
    simp only [resA1, pureA, this]
theorem resAs_ag {t s : Fr} {h : Heap} {lv : Lv} (ha : Ag (fun i => lv i = false) t s) : ∀ (rs : List Res), (∀ i, resLv rs i = true → lv i = true) → resAs t h rs = resAs s h rs
  | [], _ => rfl
  | r :: l, hr => by
    simp only [resAs]
    rw [resA1_ag ha (r := r) (hr _ (by simp [resLv])), resAs_ag ha l fun i q => hr i (by simp only [resLv, List.any_cons, Bool.or_eq_true]; exact .inr q)]

def fnU (T : Plain) (Γ : Env) (fuel : Nat) (F : FnIL) (hn : Hj) (args : List Value) (h : Heap) : Tr :=
  execU T Γ fuel F.body (args ++ List.replicate (F.ntmps - args.length) undef) h hn (resLv F.res) fun e t' h' _ => retT h F.res e t' h'

theorem wp_sim {P : Program} {qt : List Nat} (hm : P.follows .mixedOrders = true) {Γ : Env} (hΓ : EnvOk P Γ) (hq : QuietEnv qt Γ) {f : Nat} {F : FnIL} (hf : stF P qt f = some F) {args : List Value} {h : Heap}
    {Q : Value → Heap → Prop} (e : Wp Γ (resLv F.res) F.body (args ++ List.replicate (F.ntmps - args.length) undef) h fun e s h' => (retT h F.res e s h').holds Q) : Sim P f args h Q := by
  obtain ⟨n, ex, t', h', s, h1, a1, h2⟩ := e
  have hres : resA s h' F.res = resA t' h' F.res := by
    simp only [resA, resAs_ag a1 F.res fun i q => q]
  have key : ∀ (hne : ex = .normal ∨ ex = .ret), (match resA s h' F.res with
      | some v => if letGo h v h' then Tr.ret v (h'.take h.length) else .ret v h'
      | none => .fail).holds Q → Sim P f args h Q := by
    intro hne e
    rw [hres] at e
    split at e
    · rename_i v hv
      have base : Sim P f args h fun v1 h2 => v1 = v ∧ h2 = h' := fn_sim hf (execF_sim hm hΓ hq n F.body _ h ex t' h' _ h1 ⟨by rcases hne with rfl | rfl <;> simp [Ex.ex], v, hv, rfl, rfl⟩)
      split at e
      · rename_i hc
        unfold letGo at hc
        simp only [Bool.and_eq_true, decide_eq_true_eq] at hc
        exact base.cut fun v1 h2 ⟨q1, q2⟩ => by subst q1; subst q2; exact ⟨hc.1.1, hc.1.2, hc.2, e⟩
      · exact base.mono fun v1 h2 ⟨q1, q2⟩ => by subst q1; subst q2; exact e
    · cases e
  cases ex with
  | exit i => cases h2
  | normal => exact key (.inl rfl) h2
  | ret => exact key (.inr rfl) h2

theorem fnU_sim {P : Program} {qt : List Nat} (hm : P.follows .mixedOrders = true) {T : Plain} {Γ : Env} (hΓ : EnvOk P (T.env Γ)) (hq : QuietEnv qt (T.env Γ)) {f : Nat} {F : FnIL} (hf : stF P qt f = some F) {fuel : Nat} {hn : Hj} {args : List Value} {h : Heap}
    {Q : Value → Heap → Prop} (e : (fnU T Γ fuel F hn args h).holds Q) : Sim P f args h Q :=
  wp_sim hm hΓ hq hf ((execU_holds fuel F.body _ h hn _ _ e).mono fun _ _ _ ⟨_, q⟩ => q)

end Go.Am
