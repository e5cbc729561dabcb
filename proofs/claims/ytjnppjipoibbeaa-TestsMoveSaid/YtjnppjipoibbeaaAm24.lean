/-
  The evaluator as a tree, with both ways of a condition brought together again where it can be done.
-/
import Derived.Test.YtjnppjipoibbeaaAm23
namespace Go.Am
set_option linter.all false

inductive Hj where
  | sym (l r : Hj)
  | con (n : Hj)
  | yes (n : Hj)
  | no (n : Hj)
  | val (n : Hj)
  | join (m : Nat) (l r n : Hj)
  | nil

def mergeV (b : Bool) : Value → Value → Option Value
  | .bool x, .bool y => some (.bool (bif b then x else y))
  | .int k x, .int k' y => if k = k' then some (.int k (bif b then x else y)) else none
  | _, _ => none
theorem mergeV_eq {b : Bool} {u v w : Value} (e : mergeV b u v = some w) : w = if b then u else v := by
  unfold mergeV at e
  split at e
  · cases e; cases b <;> rfl
  · split at e
    · rename_i hk; cases e; subst hk; cases b <;> rfl
    · cases e
  · cases e

/-! ### What a temp's value is read by -/
def rdOs : Operand → List Nat
  | .tmp i => [i]
  | _ => []
def rdG : Option (Nat × Bool) → List Nat
  | none => []
  | some (i, _) => [i]
def rdOp (o : IOp) : List Nat := rdG o.g ++ (opnds o.k).flatMap rdOs
abbrev Lv := Nat → Bool
def isLive (i : Nat) : List IOp → Lv → Bool
  | [], lv => lv i
  | o :: r, lv => (rdOp o).contains i || (match o.dst with
    | some d => if d = i then false else isLive i r lv
    | none => isLive i r lv)
def exR (i : Nat) : List IOp → Bool
  | [] => false
  | o :: r => (rdOp o).contains i || (match o.dst with
    | some d => if d = i then false else exR i r
    | none => exR i r)
def exL (i : Nat) : IL → Bool
  | .reg ops => exR i ops
  | .dreg ops _ => exR i ops
  | .seq x y => exL i x || exL i y
  | .ite c x y => (rdOs c).contains i || (exL i x || exL i y)
  | .block _ x => exL i x
  | .loop x => exL i x
  | _ => false
def noX : IL → Bool
  | .dreg _ _ => true
  | .seq x y => noX x && noX y
  | .ite _ x y => noX x && noX y
  | .block _ x => noX x
  | .loop x => noX x
  | _ => true

theorem live_of {i : Nat} {lv : Lv} : ∀ (ops : List IOp), exR i ops = false → lv i = false → isLive i ops lv = false
  | [], _, h => h
  | o :: r, h1, h2 => by
    simp only [exR, isLive, Bool.or_eq_false_iff] at h1 ⊢
    refine ⟨h1.1, ?_⟩
    have h3 := h1.2
    split at h3
    · rename_i d hd
      split at h3
      · rename_i q; simp [q]
      · rename_i q; simp [q, live_of r h3 h2]
    · exact live_of r h3 h2

def Ag (D : Nat → Prop) (t t' : Fr) : Prop := t.length = t'.length ∧ ∀ i, ¬ D i → t.getD i undef = t'.getD i undef
theorem Ag.refl {D : Nat → Prop} (t : Fr) : Ag D t t := ⟨rfl, fun _ _ => rfl⟩
theorem Ag.symm {D : Nat → Prop} {t t' : Fr} (h : Ag D t t') : Ag D t' t := ⟨h.1.symm, fun i hi => (h.2 i hi).symm⟩
theorem Ag.trans {D : Nat → Prop} {t t' t'' : Fr} (h : Ag D t t') (h' : Ag D t' t'') : Ag D t t'' := ⟨h.1.trans h'.1, fun i hi => (h.2 i hi).trans (h'.2 i hi)⟩
theorem Ag.mono {D D' : Nat → Prop} {t t' : Fr} (h : Ag D t t') (hd : ∀ i, D i → D' i) : Ag D' t t' := ⟨h.1, fun i hi => h.2 i fun q => hi (hd i q)⟩

theorem getD_set {t : Fr} {d i : Nat} {v : Value} : (t.set d v).getD i undef = if d = i ∧ d < t.length then v else t.getD i undef := by
  simp only [List.getD, List.getElem?_set]
  by_cases h : d = i
  · subst h
    by_cases h1 : d < t.length
    · simp [h1]
    · simp [h1]
  · simp [h]
theorem put_len {t : Fr} {d : Option Nat} {v : Value} : (put t d v).length = t.length := by cases d <;> simp [put]

theorem Ag.put {D : Nat → Prop} {t t' : Fr} (h : Ag D t t') (d : Option Nat) (v : Value) : Ag (fun i => D i ∧ d ≠ some i) (put t d v) (put t' d v) := by
  refine ⟨by simp [put_len, h.1], fun i hi => ?_⟩
  cases d with
  | none => exact h.2 i fun q => hi ⟨q, by simp⟩
  | some d =>
    simp only [Am.put, getD_set, ← h.1]
    by_cases hd : d = i
    · subst hd
      by_cases hl : d < t.length
      · simp [hl]
      · simp only [hl, and_false, if_false]
        have e1 : t.getD d undef = undef := by simp [List.getD, List.getElem?_eq_none (by omega : t.length ≤ d)]
        have e2 : t'.getD d undef = undef := by simp [List.getD, List.getElem?_eq_none (by rw [← h.1]; omega : t'.length ≤ d)]
        rw [e1, e2]
    · simp only [hd, false_and, if_false]
      exact h.2 i fun q => hi ⟨q, by simpa using hd⟩

theorem mem_rd {k : IK} {i : Nat} (h : Operand.tmp i ∈ opnds k) : i ∈ (opnds k).flatMap rdOs := List.mem_flatMap.2 ⟨_, h, by simp [rdOs]⟩

theorem ag_want {D : Nat → Prop} {t t' : Fr} (ha : Ag D t t') {o : IOp} (hd : ∀ i, D i → (rdOp o).contains i = false) : want t o.g = want t' o.g := by
  unfold want
  cases hg : o.g with
  | none => rfl
  | some p =>
    obtain ⟨i, b⟩ := p
    have hi : ¬ D i := fun q => by
      have := hd i q
      simp [rdOp, hg, rdG] at this
    simp only [ha.2 i hi]
theorem ag_op {D : Nat → Prop} {t t' : Fr} (ha : Ag D t t') {o : IOp} {Γ : Env} {h : Heap} (hd : ∀ i, D i → (rdOp o).contains i = false) : opA Γ o.k t h = opA Γ o.k t' h := by
  apply opA_congr
  intro x hx
  cases x with
  | tmp i =>
    have hi : ¬ D i := fun q => by
      have h1 := hd i q
      have h2 : i ∈ rdOp o := List.mem_append.2 (.inr (mem_rd hx))
      simp at h1
      exact h1 h2
    exact ha.2 i hi
  | _ => rfl

theorem runR_ins {Γ : Env} {lv : Lv} : ∀ (ops : List IOp) (D : Nat → Prop) (t t' : Fr) (h : Heap) (t1 : Fr) (h1 : Heap), Ag D t t' → (∀ i, D i → isLive i ops lv = false) → runR Γ ops t h = some (t1, h1) →
    ∃ t1', runR Γ ops t' h = some (t1', h1) ∧ Ag (fun i => lv i = false) t1 t1'
  | [], D, t, t', h, t1, h1, ha, hd, e => by
    cases e
    exact ⟨t', rfl, ha.mono hd⟩
  | o :: r, D, t, t', h, t1, h1, ha, hd, e => by
    have hd1 : ∀ i, D i → (rdOp o).contains i = false := fun i hi => by
      have := hd i hi
      simp only [isLive, Bool.or_eq_false_iff] at this
      exact this.1
    have hd2 : ∀ i, (D i ∧ o.dst ≠ some i) → isLive i r lv = false := fun i ⟨hi, hn⟩ => by
      have := hd i hi
      simp only [isLive, Bool.or_eq_false_iff] at this
      have h2 := this.2
      split at h2
      · rename_i d hd
        split at h2
        · rename_i q; subst q; exact absurd hd hn
        · exact h2
      · exact h2
    simp only [runR] at e ⊢
    rw [← ag_want ha hd1, ← ag_op ha hd1]
    split at e
    · rename_i hw
      rw [if_pos hw]
      split at e
      · rename_i v h2 hv
        exact runR_ins r _ _ _ h2 t1 h1 (ha.put o.dst v) hd2 e
      · cases e
    · rename_i hw
      rw [if_neg hw]
      exact runR_ins r _ _ _ h t1 h1 (ha.put o.dst undef) hd2 e

theorem isLive_app {d : Nat} {lv : Lv} : ∀ (a b : List IOp), isLive d (a ++ b) lv = isLive d a (fun i => isLive i b lv)
  | [], _ => rfl
  | o :: r, b => by
    simp only [List.cons_append, isLive]
    rw [isLive_app r b]

theorem crossB_ins {Γ : Env} {lv : Lv} {os : List IOp} {D : Nat → Prop} {t t' : Fr} {h : Heap} (ha : Ag D t t') (hd : ∀ i, D i → isLive i os lv = false) : ∀ (X : List (Nat × Nat)), crossB Γ os t h X = true → crossB Γ os t' h X = true
  | [], _ => rfl
  | (i, j) :: r, e => by
    simp only [crossB, Bool.and_eq_true] at e ⊢
    refine ⟨?_, crossB_ins ha hd r e.2⟩
    have e1 := e.1
    have run : ∀ n (t1 : Fr) (h1 : Heap), runR Γ (os.take n) t h = some (t1, h1) → ∃ t1', runR Γ (os.take n) t' h = some (t1', h1) ∧ Ag (fun d => isLive d (os.drop n) lv = false) t1 t1' := fun n t1 h1 q =>
      runR_ins (os.take n) D t t' h t1 h1 ha (fun d hD => by have := hd d hD; rw [← List.take_append_drop n os, isLive_app] at this; exact this) q
    split at e1
    · rename_i x ti hi tj hj hx q1 q2
      obtain ⟨ti', r1, a1⟩ := run _ _ _ q1
      obtain ⟨tj', r2, _⟩ := run _ _ _ q2
      have hdr : os.drop i = x :: os.drop (i + 1) := by
        have hlt : i < os.length := (List.getElem?_eq_some_iff.1 hx).1
        rw [List.drop_eq_getElem_cons hlt]
        have := (List.getElem?_eq_some_iff.1 hx).2
        rw [this]
      have hrd : ∀ d, isLive d (os.drop i) lv = false → (rdOp x).contains d = false := fun d q => by
        rw [hdr] at q
        simp only [isLive, Bool.or_eq_false_iff] at q
        exact q.1
      rw [hx, r1, r2]
      simp only [← ag_want a1 hrd, ← ag_op (Γ := Γ) (h := hi) a1 hrd, ← ag_op (Γ := Γ) (h := hj) a1 hrd]
      exact e1
    · cases e1

theorem execF_ins {Γ : Env} {lv : Lv} : ∀ (n : Nat) (x : IL) (t t' : Fr) (h : Heap) (e : Ex) (t1 : Fr) (h1 : Heap), Ag (fun i => lv i = false) t t' → (∀ i, exL i x = true → lv i = true) → noX x = true →
    execF Γ n x t h = some (e, t1, h1) → ∃ t1', execF Γ n x t' h = some (e, t1', h1) ∧ Ag (fun i => lv i = false) t1 t1'
  | 0, _, _, _, _, _, _, _, _, _, _, e => by cases e
  | n + 1, x, t, t', h, e, t1, h1, ha, hx, hX, he => by
    cases x with
    | skip => cases he; exact ⟨t', rfl, ha⟩
    | exit id => cases he; exact ⟨t', rfl, ha⟩
    | ret => cases he; exact ⟨t', rfl, ha⟩
    | reg ops =>
      simp only [execF] at he ⊢
      split at he
      · rename_i t2 h2 e2
        cases he
        obtain ⟨t3, e3, a3⟩ := runR_ins ops _ t t' h _ _ ha (fun i hi => live_of ops (by cases q : exR i ops with
          | false => rfl
          | true => have := hx i (by simpa [exL] using q); rw [hi] at this; cases this) hi) e2
        exact ⟨t3, by rw [e3], a3⟩
      · cases he
    | dreg ops X =>
      have hd : ∀ i, lv i = false → isLive i ops lv = false := fun i hi => live_of ops (by cases q : exR i ops with
          | false => rfl
          | true => have := hx i (by simpa [exL] using q); rw [hi] at this; cases this) hi
      simp only [execF] at he ⊢
      split at he
      · rename_i hc
        rw [if_pos (crossB_ins ha hd X hc)]
        split at he
        · rename_i t2 h2 e2
          cases he
          obtain ⟨t3, e3, a3⟩ := runR_ins ops _ t t' h _ _ ha hd e2
          exact ⟨t3, by rw [e3], a3⟩
        · cases he
      · cases he
    | seq x y =>
      simp only [noX, Bool.and_eq_true] at hX
      simp only [exL, Bool.or_eq_true] at hx
      simp only [execF] at he ⊢
      split at he
      · rename_i t2 h2 e2
        obtain ⟨t3, e3, a3⟩ := execF_ins n x t t' h _ _ _ ha (fun i q => hx i (.inl q)) hX.1 e2
        obtain ⟨t4, e4, a4⟩ := execF_ins n y t2 t3 h2 _ _ _ a3 (fun i q => hx i (.inr q)) hX.2 he
        exact ⟨t4, by rw [e3]; exact e4, a4⟩
      · rename_i hne
        obtain ⟨t3, e3, a3⟩ := execF_ins n x t t' h _ _ _ ha (fun i q => hx i (.inl q)) hX.1 he
        refine ⟨t3, ?_, a3⟩
        rw [e3]
        cases e with
        | normal => exact absurd he (hne _ _)
        | _ => rfl
    | ite c x y =>
      simp only [noX, Bool.and_eq_true] at hX
      simp only [exL, Bool.or_eq_true] at hx
      have hc : ev t c = ev t' c := by
        cases c with
        | tmp i => exact ha.2 i fun q => by have := hx i (.inl (by simp [rdOs])); rw [q] at this; cases this
        | _ => rfl
      simp only [execF, ← hc] at he ⊢
      split at he
      · exact execF_ins n x t t' h _ _ _ ha (fun i q => hx i (.inr (.inl q))) hX.1 he
      · exact execF_ins n y t t' h _ _ _ ha (fun i q => hx i (.inr (.inr q))) hX.2 he
      · cases he
    | block id x =>
      simp only [execF] at he ⊢
      split at he
      · rename_i i t2 h2 e2
        obtain ⟨t3, e3, a3⟩ := execF_ins n x t t' h _ _ _ ha (fun i q => hx i (by simpa [exL] using q)) (by simpa [noX] using hX) e2
        rw [e3]
        dsimp only
        split at he
        · rename_i hi; cases he; exact ⟨t3, by rw [if_pos hi], a3⟩
        · rename_i hi; cases he; exact ⟨t3, by rw [if_neg hi], a3⟩
      · rename_i hne
        obtain ⟨t3, e3, a3⟩ := execF_ins n x t t' h _ _ _ ha (fun i q => hx i (by simpa [exL] using q)) (by simpa [noX] using hX) he
        refine ⟨t3, ?_, a3⟩
        rw [e3]
        cases e with
        | exit i => exact absurd he (hne _ _ _)
        | _ => rfl
    | loop x =>
      have hx' : ∀ i, exL i x = true → lv i = true := fun i q => hx i (by simpa [exL] using q)
      have hX' : noX x = true := by simpa [noX] using hX
      simp only [execF] at he ⊢
      split at he
      · rename_i t2 h2 e2
        obtain ⟨t3, e3, a3⟩ := execF_ins n x t t' h _ _ _ ha hx' hX' e2
        obtain ⟨t4, e4, a4⟩ := execF_ins n (.loop x) t2 t3 h2 _ _ _ a3 hx hX he
        exact ⟨t4, by rw [e3]; exact e4, a4⟩
      · rename_i hne
        obtain ⟨t3, e3, a3⟩ := execF_ins n x t t' h _ _ _ ha hx' hX' he
        refine ⟨t3, ?_, a3⟩
        rw [e3]
        cases e with
        | normal => exact absurd he (hne _ _)
        | _ => rfl

theorem runR_len {Γ : Env} : ∀ (ops : List IOp) (t : Fr) (h : Heap) (t1 : Fr) (h1 : Heap), runR Γ ops t h = some (t1, h1) → t1.length = t.length ∧ ∀ i, i ∉ ops.filterMap (·.dst) → t1.getD i undef = t.getD i undef
  | [], t, h, t1, h1, e => by cases e; exact ⟨rfl, fun _ _ => rfl⟩
  | o :: r, t, h, t1, h1, e => by
    have key : ∀ (v : Value) (i : Nat), i ∉ (o :: r).filterMap (·.dst) → (put t o.dst v).getD i undef = t.getD i undef := by
      intro v i hi
      cases hd : o.dst with
      | none => rfl
      | some d =>
        simp only [List.filterMap_cons, hd] at hi
        simp only [put, getD_set]
        have : ¬ (d = i) := fun q => hi (by simp [q])
        simp [this]
    have sub : ∀ i, i ∉ (o :: r).filterMap (·.dst) → i ∉ r.filterMap (·.dst) := fun i hi q => hi (by
      rw [List.filterMap_cons]
      cases o.dst with
      | none => exact q
      | some d => exact List.mem_cons_of_mem _ q)
    simp only [runR] at e
    split at e
    · split at e
      · obtain ⟨a, b⟩ := runR_len r _ _ _ _ e
        exact ⟨a.trans put_len, fun i hi => (b i (sub i hi)).trans (key _ i hi)⟩
      · cases e
    · obtain ⟨a, b⟩ := runR_len r _ _ _ _ e
      exact ⟨a.trans put_len, fun i hi => (b i (sub i hi)).trans (key _ i hi)⟩
theorem runR_app {Γ : Env} : ∀ (a b : List IOp) (t : Fr) (h : Heap) (t1 : Fr) (h1 : Heap), runR Γ a t h = some (t1, h1) → runR Γ (a ++ b) t h = runR Γ b t1 h1
  | [], b, t, h, t1, h1, e => by cases e; rfl
  | o :: r, b, t, h, t1, h1, e => by
    simp only [runR, List.cons_append] at e ⊢
    split at e
    · rename_i hw
      rw [if_pos hw]
      split at e
      · rename_i v h2 hv
        exact runR_app r b _ _ _ _ e
      · cases e
    · rename_i hw
      rw [if_neg hw]
      exact runR_app r b _ _ _ _ e

/-! ### Both ways, brought together -/
def mergeF (b : Bool) (lv : Lv) (t1 t2 : Fr) : List Nat → Fr → Option Fr
  | [], t => some t
  | d :: r, t => if lv d then match mergeV b (t1.getD d undef) (t2.getD d undef) with
      | some v => mergeF b lv t1 t2 r (t.set d v)
      | none => none
    else mergeF b lv t1 t2 r (t.set d undef)
theorem mergeF_ok {b : Bool} {lv : Lv} {t1 t2 : Fr} : ∀ (ds : List Nat) (t t3 : Fr), mergeF b lv t1 t2 ds t = some t3 → t1.length = t.length → t2.length = t.length →
    t3.length = t.length ∧ ∀ i, lv i = true → (i ∈ ds → t3.getD i undef = (if b then t1 else t2).getD i undef) ∧ (i ∉ ds → t3.getD i undef = t.getD i undef)
  | [], t, t3, e, _, _ => by cases e; exact ⟨rfl, fun i _ => ⟨fun h => (by cases h), fun _ => rfl⟩⟩
  | d :: r, t, t3, e, l1, l2 => by
    simp only [mergeF] at e
    split at e
    · rename_i hl
      split at e
      · rename_i v hv
        obtain ⟨a, c⟩ := mergeF_ok r _ t3 e (by simpa using l1) (by simpa using l2)
        refine ⟨by simpa using a, fun i hi => ⟨fun hm => ?_, fun hm => ?_⟩⟩
        · by_cases hr : i ∈ r
          · exact (c i hi).1 hr
          · rw [(c i hi).2 hr, getD_set]
            have hdi : d = i := by simpa [hr, eq_comm] using hm
            subst hdi
            have hv' := mergeV_eq hv
            by_cases hlt : d < t.length
            · simp only [hlt, and_self, if_true, hv']
              cases b <;> rfl
            · simp only [hlt, and_false, if_false]
              have e0 : ∀ t : Fr, t.length ≤ d → t.getD d undef = undef := fun t h => by simp [List.getD, List.getElem?_eq_none h]
              rw [e0 t (by omega)]
              cases b
              · exact (e0 t2 (by omega)).symm
              · exact (e0 t1 (by omega)).symm
        · have h1 : ¬ i = d := fun q => hm (by simp [q])
          have h2 : i ∉ r := fun q => hm (by simp [q])
          rw [(c i hi).2 h2, getD_set]
          simp [Ne.symm h1]
      · cases e
    · rename_i hl
      obtain ⟨a, c⟩ := mergeF_ok r _ t3 e (by simpa using l1) (by simpa using l2)
      refine ⟨by simpa using a, fun i hi => ⟨fun hm => ?_, fun hm => ?_⟩⟩
      · have h1 : ¬ i = d := fun q => hl (by rw [← q]; exact hi)
        exact (c i hi).1 (by simpa [h1] using hm)
      · have h1 : ¬ i = d := fun q => hm (by simp [q])
        have h2 : i ∉ r := fun q => hm (by simp [q])
        rw [(c i hi).2 h2, getD_set]
        simp [Ne.symm h1]

def opJ (T : Plain) (Γ : Env) (k : IK) (t : Fr) (h : Heap) (hn : Hj) : Option (Bool × Value × Hj) :=
  match k with
  | .pick c a b => match hn with
    | .val n => match ev t c with
      | .bool c => (mergeV c (ev t a) (ev t b)).map fun v => (true, v, n)
      | _ => none
    | .con n => match ev t c with
      | .bool true => some (true, ev t a, n)
      | .bool false => some (true, ev t b, n)
      | _ => none
    | _ => none
  | .bin .quo x y => match ev t x, ev t y with
    | .int k a, .int k' b => if k = k' then some (!(decide (b = 0)), .int k (k.wrap (a.tdiv b)), hn) else none
    | _, _ => none
  | .bin .rem x y => match ev t x, ev t y with
    | .int k a, .int k' b => if k = k' then some (!(decide (b = 0)), .int k (a.tmod b), hn) else none
    | _, _ => none
  | .call f args => (T.find f (args.map (ev t))).map fun p => (p.1, p.2, hn)
  | k => if effK k then none else (pureA k t h).map fun v => (true, v, hn)

theorem opJ_ok {T : Plain} {Γ : Env} {k : IK} {t : Fr} {h : Heap} {hn : Hj} {q : Bool} {v : Value} {n : Hj} (e : opJ T Γ k t h hn = some (q, v, n)) (hq : q = true) : opA (T.env Γ) k t h = some (v, h) := by
  unfold opJ at e
  split at e
  · rename_i c a b
    split at e
    · split at e
      · rename_i c' hc
        cases hm : mergeV c' (ev t a) (ev t b) with
        | none => rw [hm] at e; cases e
        | some w =>
          rw [hm] at e; cases e
          simp only [opA, pureA, hc, mergeV_eq hm]
      · cases e
    · split at e
      · rename_i hc; cases e; simp only [opA, pureA, hc]; rfl
      · rename_i hc; cases e; simp only [opA, pureA, hc]; rfl
      · cases e
    · cases e
  · split at e
    · rename_i hx hy
      split at e
      · rename_i hkk
        cases e
        simp only [Bool.not_eq_true', decide_eq_false_iff_not] at hq
        simp only [opA, pureA, hx, hy, binA, hkk, if_true, intBin, hq, if_false]
      · cases e
    · cases e
  · split at e
    · rename_i hx hy
      split at e
      · rename_i hkk
        cases e
        simp only [Bool.not_eq_true', decide_eq_false_iff_not] at hq
        simp only [opA, pureA, hx, hy, binA, hkk, if_true, intBin, hq, if_false]
      · cases e
    · cases e
  · rename_i f args
    cases hf : T.find f (args.map (ev t)) with
    | none => rw [hf] at e; cases e
    | some p =>
      obtain ⟨b, w⟩ := p
      rw [hf] at e; cases e
      simp only [opA, Plain.env, hf]
      exact if_pos hq
  · split at e
    · cases e
    · rename_i hk
      rw [opA_pure (by simpa using hk)]
      cases hp : pureA k t h with
      | none => rw [hp] at e; cases e
      | some w => rw [hp] at e; cases e; rfl

def runJ (T : Plain) (Γ : Env) : Nat → List IOp → Fr → Heap → Hj → Lv → Option (Bool × Fr × Hj)
  | 0, _, _, _, _, _ => none
  | _ + 1, [], t, _, hn, _ => some (true, t, hn)
  | n + 1, o :: r, t, h, hn, lv =>
    let go (hn : Hj) : Option (Bool × Fr × Hj) := match opJ T Γ o.k t h hn with
      | some (q, v, hn) => match runJ T Γ n r (put t o.dst v) h hn lv with
        | some (q2, t2, hn2) => some (q && q2, t2, hn2)
        | none => none
      | none => none
    match o.g with
    | none => go hn
    | some (i, p) => match hn, t.getD i undef with
      | .join m hl hr hk, .bool b =>
        let lj : Lv := fun d => isLive d ((o :: r).drop m) lv
        match runJ T Γ n ((o :: r).take m) (t.set i (.bool true)) h hl lj, runJ T Γ n ((o :: r).take m) (t.set i (.bool false)) h hr lj with
        | some (q1, t1, _), some (q2, t2, _) => match mergeF b lj t1 t2 (((o :: r).take m).filterMap (·.dst)) t with
          | some t3 => match runJ T Γ n ((o :: r).drop m) t3 h hk lv with
            | some (q3, t4, hk') => some ((bif b then q1 else q2) && q3, t4, hk')
            | none => none
          | none => none
        | _, _ => none
      | .con hn, .bool c => if c == p then go hn else runJ T Γ n r (put t o.dst undef) h hn lv
      | .con hn, _ => runJ T Γ n r (put t o.dst undef) h hn lv
      | _, _ => none

theorem join_ag {Γ : Env} {a : List IOp} {b : Bool} {lj : Lv} {t t1 t2 t3 u : Fr} {h h1 : Heap} (hu : runR Γ a t h = some (u, h1)) (l1 : t1.length = t.length) (l2 : t2.length = t.length)
    (hm : mergeF b lj t1 t2 (a.filterMap (·.dst)) t = some t3) (ha : Ag (fun i => lj i = false) u (if b then t1 else t2)) : Ag (fun i => lj i = false) u t3 := by
  obtain ⟨ul, uf⟩ := runR_len a t h u h1 hu
  obtain ⟨m1, m2⟩ := mergeF_ok _ _ _ hm l1 l2
  refine ⟨by rw [ul, m1], fun i hi => ?_⟩
  have hi' : lj i = true := by cases q : lj i with
    | true => rfl
    | false => exact absurd q hi
  by_cases hd : i ∈ a.filterMap (·.dst)
  · rw [(m2 i hi').1 hd]; exact ha.2 i hi
  · rw [(m2 i hi').2 hd, uf i hd]

theorem runJ_ok {T : Plain} {Γ : Env} : ∀ (n : Nat) (ops : List IOp) (t : Fr) (h : Heap) (hn : Hj) (lv : Lv) (q : Bool) (t' : Fr) (hn' : Hj), runJ T Γ n ops t h hn lv = some (q, t', hn') →
    t'.length = t.length ∧ (q = true → ∃ t1, runR (T.env Γ) ops t h = some (t1, h) ∧ Ag (fun i => lv i = false) t1 t')
  | 0, _, _, _, _, _, _, _, _, e => by cases e
  | n + 1, [], t, h, hn, lv, q, t', hn', e => by cases e; exact ⟨rfl, fun _ => ⟨t, rfl, .refl t⟩⟩
  | n + 1, o :: r, t, h, hn, lv, q, t', hn', e => by
    have go : ∀ hn, want t o.g = true → (match opJ T Γ o.k t h hn with
      | some (q, v, hn) => match runJ T Γ n r (put t o.dst v) h hn lv with
        | some (q2, t2, hn2) => some (q && q2, t2, hn2)
        | none => none
      | none => none) = some (q, t', hn') → t'.length = t.length ∧ (q = true → ∃ t1, runR (T.env Γ) (o :: r) t h = some (t1, h) ∧ Ag (fun i => lv i = false) t1 t') := by
      intro hn hw e
      split at e
      · rename_i q1 v n1 ho
        split at e
        · rename_i q2 t2 n2 hr
          cases e
          obtain ⟨l, k⟩ := runJ_ok n r _ h _ lv _ _ _ hr
          refine ⟨l.trans put_len, fun hq => ?_⟩
          simp only [Bool.and_eq_true] at hq
          obtain ⟨t1, e1, a1⟩ := k hq.2
          exact ⟨t1, by simp only [runR, hw, if_true, opJ_ok ho hq.1, e1], a1⟩
        · cases e
      · cases e
    have skip : want t o.g = false → ∀ hn, runJ T Γ n r (put t o.dst undef) h hn lv = some (q, t', hn') → t'.length = t.length ∧ (q = true → ∃ t1, runR (T.env Γ) (o :: r) t h = some (t1, h) ∧ Ag (fun i => lv i = false) t1 t') := by
      intro hw hn e
      obtain ⟨l, k⟩ := runJ_ok n r _ h _ lv _ _ _ e
      refine ⟨l.trans put_len, fun hq => ?_⟩
      obtain ⟨t1, e1, a1⟩ := k hq
      exact ⟨t1, by simp only [runR, hw, Bool.false_eq_true, if_false, e1], a1⟩
    unfold runJ at e
    dsimp only at e
    split at e
    · rename_i hg
      exact go hn (by simp [want, hg]) e
    · rename_i i p hg
      split at e
      · rename_i m hl hr hk b hb
        split at e
        · rename_i q1 t1 n1 q2 t2 n2 e1 e2
          split at e
          · rename_i t3 hm
            split at e
            · rename_i q3 t4 hk' e3
              cases e
              obtain ⟨l1, k1⟩ := runJ_ok n _ _ h _ _ _ _ _ e1
              obtain ⟨l2, k2⟩ := runJ_ok n _ _ h _ _ _ _ _ e2
              obtain ⟨l3, k3⟩ := runJ_ok n _ _ h _ _ _ _ _ e3
              rw [List.length_set] at l1 l2
              have l4 := (mergeF_ok _ _ _ hm l1 l2).1
              refine ⟨l3.trans l4, fun hq => ?_⟩
              simp only [Bool.and_eq_true] at hq
              have hs : t.set i (.bool b) = t := set_same hb (by intro q; cases q)
              obtain ⟨u, eu, au⟩ : ∃ u, runR (T.env Γ) ((o :: r).take m) t h = some (u, h) ∧ Ag (fun d => isLive d ((o :: r).drop m) lv = false) u (if b then t1 else t2) := by
                cases b with
                | true => rw [hs] at k1; exact k1 (by simpa using hq.1)
                | false => rw [hs] at k2; exact k2 (by simpa using hq.1)
              have a3 := join_ag eu l1 l2 hm au
              obtain ⟨t5, e5, a5⟩ := k3 hq.2
              obtain ⟨t6, e6, a6⟩ := runR_ins _ _ t3 u h _ _ a3.symm (fun i hi => hi) e5
              refine ⟨t6, ?_, a6.symm.trans a5⟩
              have := runR_app ((o :: r).take m) ((o :: r).drop m) t h u h eu
              rw [List.take_append_drop] at this
              rw [this, e6]
            · cases e
          · cases e
        · cases e
      · rename_i hn c hb
        split at e
        · rename_i hc
          exact go hn (by simp only [want, hg, hb, hc]) e
        · rename_i hc
          exact skip (by simp only [want, hg, hb]; simpa using hc) hn e
      · rename_i hn hb
        refine skip ?_ hn e
        simp only [want, hg]
      · cases e


/-! ### The tree -/
def brU (b : Bool) (hn : Hj) (kt kf : Hj → Tr) : Tr := match hn with
  | .sym l r => .br b (kt l) (kf r)
  | .con n => match b with
    | true => kt n
    | false => kf n
  | .yes n => .req b (kt n)
  | .no n => .req (!b) (kf n)
  | _ => .fail
theorem brU_holds {b : Bool} {hn : Hj} {kt kf : Hj → Tr} {Q : Value → Heap → Prop} (h : (brU b hn kt kf).holds Q) : (b = true ∧ ∃ n, (kt n).holds Q) ∨ (b = false ∧ ∃ n, (kf n).holds Q) := by
  unfold brU at h
  split at h
  · cases b with
    | true => exact .inl ⟨rfl, _, h.1 rfl⟩
    | false => exact .inr ⟨rfl, _, h.2 rfl⟩
  · cases b with
    | true => exact .inl ⟨rfl, _, h⟩
    | false => exact .inr ⟨rfl, _, h⟩
  · exact .inl ⟨h.1, _, h.2⟩
  · exact .inr ⟨by simpa using h.1, _, h.2⟩
  · cases h

def opU (T : Plain) (Γ : Env) (k : IK) (t : Fr) (h : Heap) (hn : Hj) (K : Value → Heap → Hj → Tr) : Tr :=
  match k with
  | .pick c a b => match ev t c with
    | .bool c => match hn with
      | .val n => match mergeV c (ev t a) (ev t b) with
        | some v => K v h n
        | none => .fail
      | hn => brU c hn (fun n => K (ev t a) h n) (fun n => K (ev t b) h n)
    | _ => .fail
  | .bin .quo x y => divT .quo (ev t x) (ev t y) fun v => K v h hn
  | .bin .rem x y => divT .rem (ev t x) (ev t y) fun v => K v h hn
  | .call f args => match T.find f (args.map (ev t)) with
    | some (b, v) => .req b (K v h hn)
    | none => match Γ f (args.map (ev t)) h with
      | some (v, h') => K v h' hn
      | none => .fail
  | k => match opA (T.env Γ) k t h with
    | some (v, h') => K v h' hn
    | none => .fail

theorem opU_holds {T : Plain} {Γ : Env} {k : IK} {t : Fr} {h : Heap} {hn : Hj} {K : Value → Heap → Hj → Tr} {Q : Value → Heap → Prop} (e : (opU T Γ k t h hn K).holds Q) :
    ∃ v h' n, opA (T.env Γ) k t h = some (v, h') ∧ (K v h' n).holds Q := by
  unfold opU at e
  split at e
  · rename_i c a b
    split at e
    · rename_i c' hc
      split at e
      · rename_i n
        split at e
        · rename_i v hm
          exact ⟨v, h, n, by simp only [opA, pureA, hc, mergeV_eq hm], e⟩
        · cases e
      · rcases brU_holds e with ⟨hb, n, hk⟩ | ⟨hb, n, hk⟩
        · subst hb; exact ⟨_, _, n, by simp only [opA, pureA, hc]; rfl, hk⟩
        · subst hb; exact ⟨_, _, n, by simp only [opA, pureA, hc]; rfl, hk⟩
    · cases e
  · rename_i x y
    unfold divT at e
    split at e
    · rename_i k a k' b hx hy
      split at e
      · rename_i hkk
        obtain ⟨h1, h2⟩ := e
        have hb : ¬ b = 0 := by simpa using h1
        exact ⟨_, _, _, by simp only [opA, pureA, hx, hy, binA, hkk, if_true, intBin, hb, if_false], h2⟩
      · cases e
    · cases e
  · rename_i x y
    unfold divT at e
    split at e
    · rename_i k a k' b hx hy
      split at e
      · rename_i hkk
        obtain ⟨h1, h2⟩ := e
        have hb : ¬ b = 0 := by simpa using h1
        exact ⟨_, _, _, by simp only [opA, pureA, hx, hy, binA, hkk, if_true, intBin, hb, if_false], h2⟩
      · cases e
    · cases e
  · rename_i f args
    split at e
    · rename_i b v hv
      obtain ⟨h1, h2⟩ := e
      exact ⟨v, h, _, by simp only [opA, Plain.env, hv, h1, if_true], h2⟩
    · rename_i hv
      split at e
      · rename_i v h' hv2; exact ⟨v, h', _, by simp only [opA, Plain.env, hv, hv2], e⟩
      · cases e
  · split at e
    · rename_i v h' hv; exact ⟨v, h', _, hv, e⟩
    · cases e

def runU (T : Plain) (Γ : Env) : Nat → List IOp → Fr → Heap → Hj → Lv → (Fr → Heap → Hj → Tr) → Tr
  | 0, _, _, _, _, _, _ => .fail
  | _ + 1, [], t, h, hn, _, K => K t h hn
  | n + 1, o :: r, t, h, hn, lv, K =>
    let go (t : Fr) (hn : Hj) : Tr := opU T Γ o.k t h hn fun v h' hn => runU T Γ n r (put t o.dst v) h' hn lv K
    let skip (t : Fr) (hn : Hj) : Tr := runU T Γ n r (put t o.dst undef) h hn lv K
    match o.g with
    | none => go t hn
    | some (i, p) => match t.getD i undef with
      | .bool b => match hn with
        | .join m hl hr hk =>
          let lj : Lv := fun d => isLive d ((o :: r).drop m) lv
          match runJ T Γ n ((o :: r).take m) (t.set i (.bool true)) h hl lj, runJ T Γ n ((o :: r).take m) (t.set i (.bool false)) h hr lj with
          | some (q1, t1, _), some (q2, t2, _) => match mergeF b lj t1 t2 (((o :: r).take m).filterMap (·.dst)) t with
            | some t3 => .req (bif b then q1 else q2) (runU T Γ n ((o :: r).drop m) t3 h hk lv K)
            | none => .fail
          | _, _ => .fail
        | hn => brU b hn (fun n => match p with | true => go (t.set i (.bool true)) n | false => skip (t.set i (.bool true)) n) (fun n => match p with | true => skip (t.set i (.bool false)) n | false => go (t.set i (.bool false)) n)
      | _ => skip t hn

theorem runU_holds {T : Plain} {Γ : Env} {Q : Value → Heap → Prop} {K : Fr → Heap → Hj → Tr} : ∀ (n : Nat) (l : List IOp) (t : Fr) (h : Heap) (hn : Hj) (lv : Lv), (runU T Γ n l t h hn lv K).holds Q →
    ∃ t' h' n s, runR (T.env Γ) l t h = some (t', h') ∧ Ag (fun i => lv i = false) t' s ∧ (K s h' n).holds Q
  | 0, _, _, _, _, _, e => by cases e
  | n + 1, [], t, h, hn, lv, e => ⟨t, h, hn, t, rfl, .refl t, e⟩
  | n + 1, o :: r, t, h, hn, lv, e => by
    have go : ∀ hn, want t o.g = true → (opU T Γ o.k t h hn fun v h' hn => runU T Γ n r (put t o.dst v) h' hn lv K).holds Q →
        ∃ t' h' n s, runR (T.env Γ) (o :: r) t h = some (t', h') ∧ Ag (fun i => lv i = false) t' s ∧ (K s h' n).holds Q := by
      intro hn hw e
      obtain ⟨v, h1, n1, h2, h3⟩ := opU_holds e
      obtain ⟨t', h', n2, s, h4, h5, h6⟩ := runU_holds n r _ _ _ _ h3
      exact ⟨t', h', n2, s, by simp only [runR, hw, if_true, h2, h4], h5, h6⟩
    have skip : ∀ hn, want t o.g = false → (runU T Γ n r (put t o.dst undef) h hn lv K).holds Q →
        ∃ t' h' n s, runR (T.env Γ) (o :: r) t h = some (t', h') ∧ Ag (fun i => lv i = false) t' s ∧ (K s h' n).holds Q := by
      intro hn hw e
      obtain ⟨t', h', n2, s, h4, h5, h6⟩ := runU_holds n r _ _ _ _ e
      exact ⟨t', h', n2, s, by simp only [runR, hw, Bool.false_eq_true, if_false, h4], h5, h6⟩
    unfold runU at e
    dsimp only at e
    split at e
    · rename_i hg
      exact go hn (by simp [want, hg]) e
    · rename_i i p hg
      split at e
      · rename_i b hb
        have hs : t.set i (.bool b) = t := set_same hb (by intro q; cases q)
        split at e
        · rename_i m hl hr hk
          split at e
          · rename_i q1 t1 n1 q2 t2 n2 e1 e2
            split at e
            · rename_i t3 hm
              obtain ⟨hq, e⟩ := e
              obtain ⟨l1, k1⟩ := runJ_ok n _ _ h _ _ _ _ _ e1
              obtain ⟨l2, k2⟩ := runJ_ok n _ _ h _ _ _ _ _ e2
              rw [List.length_set] at l1 l2
              obtain ⟨u, eu, au⟩ : ∃ u, runR (T.env Γ) ((o :: r).take m) t h = some (u, h) ∧ Ag (fun d => isLive d ((o :: r).drop m) lv = false) u (if b then t1 else t2) := by
                cases b with
                | true => rw [hs] at k1; exact k1 (by simpa using hq)
                | false => rw [hs] at k2; exact k2 (by simpa using hq)
              have a3 := join_ag eu l1 l2 hm au
              obtain ⟨t', h', n2, s, h4, h5, h6⟩ := runU_holds n _ _ _ _ _ e
              obtain ⟨t6, e6, a6⟩ := runR_ins _ _ t3 u h _ _ a3.symm (fun i hi => hi) h4
              refine ⟨t6, h', n2, s, ?_, a6.symm.trans h5, h6⟩
              have := runR_app ((o :: r).take m) ((o :: r).drop m) t h u h eu
              rw [List.take_append_drop] at this
              rw [this, e6]
            · cases e
          · cases e
        · rcases brU_holds e with ⟨hq, m, hk⟩ | ⟨hq, m, hk⟩
          · subst hq
            rw [hs] at hk
            cases p with
            | true => exact go m (by simp only [want, hg, hb]; rfl) hk
            | false => exact skip m (by simp only [want, hg, hb]; rfl) hk
          · subst hq
            rw [hs] at hk
            cases p with
            | true => exact skip m (by simp only [want, hg, hb]; rfl) hk
            | false => exact go m (by simp only [want, hg, hb]; rfl) hk
      · rename_i hb
        refine skip hn ?_ e
        simp only [want, hg]

def opQ (T : Plain) (Γ : Env) (k : IK) (t : Fr) (h : Heap) : Option (Bool × Value × Heap) :=
  match k with
  | .bin .quo x y => match ev t x, ev t y with
    | .int k a, .int k' b => if k = k' then some (!(decide (b = 0)), .int k (k.wrap (a.tdiv b)), h) else none
    | _, _ => none
  | .bin .rem x y => match ev t x, ev t y with
    | .int k a, .int k' b => if k = k' then some (!(decide (b = 0)), .int k (a.tmod b), h) else none
    | _, _ => none
  | .call f args => match T.find f (args.map (ev t)) with
    | some (b, v) => some (b, v, h)
    | none => match Γ f (args.map (ev t)) h with
      | some (v, h') => some (true, v, h')
      | none => none
  | k => (opA (T.env Γ) k t h).map fun p => (true, p.1, p.2)
theorem opQ_ok {T : Plain} {Γ : Env} {k : IK} {t : Fr} {h h' : Heap} {q : Bool} {v : Value} (e : opQ T Γ k t h = some (q, v, h')) (hq : q = true) : opA (T.env Γ) k t h = some (v, h') := by
  unfold opQ at e
  split at e
  · split at e
    · rename_i hx hy
      split at e
      · rename_i hkk
        cases e
        simp only [Bool.not_eq_true', decide_eq_false_iff_not] at hq
        simp only [opA, pureA, hx, hy, binA, hkk, if_true, intBin, hq, if_false]
      · cases e
    · cases e
  · split at e
    · rename_i hx hy
      split at e
      · rename_i hkk
        cases e
        simp only [Bool.not_eq_true', decide_eq_false_iff_not] at hq
        simp only [opA, pureA, hx, hy, binA, hkk, if_true, intBin, hq, if_false]
      · cases e
    · cases e
  · rename_i f args
    split at e
    · rename_i b w hf
      cases e
      simp only [opA, Plain.env, hf]
      exact if_pos hq
    · rename_i hf
      split at e
      · rename_i w h1 hw
        cases e
        simp only [opA, Plain.env, hf, hw]
      · cases e
  · cases ho : opA (T.env Γ) k t h with
    | none => rw [ho] at e; cases e
    | some p => rw [ho] at e; cases e; rfl
def runQ (T : Plain) (Γ : Env) : List IOp → Fr → Heap → Option (Bool × Fr × Heap)
  | [], t, h => some (true, t, h)
  | o :: r, t, h => if want t o.g then match opQ T Γ o.k t h with
      | some (q, v, h') => match runQ T Γ r (put t o.dst v) h' with
        | some (q2, t2, h2) => some (q && q2, t2, h2)
        | none => none
      | none => none
    else runQ T Γ r (put t o.dst undef) h
theorem runQ_ok {T : Plain} {Γ : Env} : ∀ (l : List IOp) (t : Fr) (h : Heap) (q : Bool) (t' : Fr) (h' : Heap), runQ T Γ l t h = some (q, t', h') → q = true → runR (T.env Γ) l t h = some (t', h')
  | [], t, h, q, t', h', e, _ => by cases e; rfl
  | o :: r, t, h, q, t', h', e, hq => by
    simp only [runQ] at e
    simp only [runR]
    split at e
    · rename_i hw
      rw [if_pos hw]
      split at e
      · rename_i q1 v h1 ho
        split at e
        · rename_i q2 t2 h2 hr
          cases e
          simp only [Bool.and_eq_true] at hq
          rw [opQ_ok ho hq.1]
          exact runQ_ok r _ _ _ _ _ hr hq.2
        · cases e
      · cases e
    · rename_i hw
      rw [if_neg hw]
      exact runQ_ok r _ _ _ _ _ e hq
def crossQ (T : Plain) (Γ : Env) (os : List IOp) (t : Fr) (h : Heap) : List (Nat × Nat) → Bool
  | [] => true
  | (i, j) :: r => (match os[i]?, runQ T Γ (os.take i) t h, runQ T Γ (os.take (if i < j then j + 1 else j)) t h with
    | some x, some (q1, ti, hi), some (q2, _, hj) => q1 && (q2 && (if want ti x.g then match opQ T Γ x.k ti hi, opQ T Γ x.k ti hj with
      | some (q3, v, _), some (q4, v', _) => q3 && (q4 && eqV v v')
      | _, _ => false
      else true))
    | _, _, _ => false) && crossQ T Γ os t h r
theorem crossQ_ok {T : Plain} {Γ : Env} {os : List IOp} {t : Fr} {h : Heap} : ∀ (X : List (Nat × Nat)), crossQ T Γ os t h X = true → crossB (T.env Γ) os t h X = true
  | [], _ => rfl
  | (i, j) :: r, e => by
    simp only [crossQ, Bool.and_eq_true] at e
    simp only [crossB, Bool.and_eq_true]
    refine ⟨?_, crossQ_ok r e.2⟩
    have e1 := e.1
    split at e1
    · rename_i x q1 ti hi q2 tj hj hx r1 r2
      simp only [Bool.and_eq_true] at e1
      rw [hx, runQ_ok _ _ _ _ _ _ r1 e1.1, runQ_ok _ _ _ _ _ _ r2 e1.2.1]
      dsimp only
      have e2 := e1.2.2
      split at e2
      · rename_i hw
        rw [if_pos hw]
        split at e2
        · rename_i q3 v h3 q4 v' h4 o1 o2
          simp only [Bool.and_eq_true] at e2
          rw [opQ_ok o1 e2.1, opQ_ok o2 e2.2.1]
          exact e2.2.2
        · cases e2
      · rename_i hw
        rw [if_neg hw]
    · cases e1

def execU (T : Plain) (Γ : Env) : Nat → IL → Fr → Heap → Hj → Lv → (Ex → Fr → Heap → Hj → Tr) → Tr
  | 0, _, _, _, _, _, _ => .fail
  | _ + 1, .skip, t, h, hn, _, K => K .normal t h hn
  | _ + 1, .reg ops, t, h, hn, lv, K => runU T Γ (ops.length + 1) ops t h hn lv (K .normal)
  | _ + 1, .dreg ops X, t, h, hn, lv, K => .req (crossQ T Γ ops t h X) (runU T Γ (ops.length + 1) ops t h hn lv (K .normal))
  | n + 1, .seq x y, t, h, hn, lv, K => execU T Γ n x t h hn (fun i => exL i y || lv i) fun e t' h' hn' => match e with
    | .normal => execU T Γ n y t' h' hn' lv K
    | e => K e t' h' hn'
  | n + 1, .ite c x y, t, h, hn, lv, K => match ev t c with
    | .bool b => brU b hn (fun m => execU T Γ n x t h m lv K) (fun m => execU T Γ n y t h m lv K)
    | _ => .fail
  | n + 1, .block id x, t, h, hn, lv, K => execU T Γ n x t h hn lv fun e t' h' hn' => match e with
    | .exit i => if i = id then K .normal t' h' hn' else K (.exit i) t' h' hn'
    | e => K e t' h' hn'
  | n + 1, .loop x, t, h, hn, lv, K => execU T Γ n x t h hn (fun i => exL i x || lv i) fun e t' h' hn' => match e with
    | .normal => execU T Γ n (.loop x) t' h' hn' lv K
    | e => K e t' h' hn'
  | _ + 1, .exit id, t, h, hn, _, K => K (.exit id) t h hn
  | _ + 1, .ret, t, h, hn, _, K => K .ret t h hn

theorem execU_holds {T : Plain} {Γ : Env} {Q : Value → Heap → Prop} : ∀ (n : Nat) (x : IL) (t : Fr) (h : Heap) (hn : Hj) (lv : Lv) (K : Ex → Fr → Heap → Hj → Tr), noX x = true → (execU T Γ n x t h hn lv K).holds Q →
    ∃ e t' h' m s, execF (T.env Γ) n x t h = some (e, t', h') ∧ Ag (fun i => lv i = false) t' s ∧ (K e s h' m).holds Q
  | 0, x, t, h, hn, lv, K, hX, e => by cases e
  | n + 1, x, t, h, hn, lv, K, hX, e => by
    cases x with
    | skip => exact ⟨_, _, _, _, _, rfl, .refl _, e⟩
    | reg ops =>
      obtain ⟨t', h', m, s, h1, a, h2⟩ := runU_holds _ ops t h hn lv e
      exact ⟨_, _, _, m, s, by simp only [execF, h1], a, h2⟩
    | dreg ops X =>
      obtain ⟨h0, e⟩ := e
      obtain ⟨t', h', m, s, h1, a, h2⟩ := runU_holds _ ops t h hn lv e
      exact ⟨_, _, _, m, s, by simp only [execF, crossQ_ok X h0, if_true, h1], a, h2⟩
    | seq x y =>
      simp only [noX, Bool.and_eq_true] at hX
      obtain ⟨e1, t1, h1, m1, s1, q1, a1, q2⟩ := execU_holds n x t h hn _ _ hX.1 e
      cases e1 with
      | normal =>
        obtain ⟨e2, t2, h2, m2, s2, q3, a2, q4⟩ := execU_holds n y s1 h1 m1 lv K hX.2 q2
        obtain ⟨t3, q5, a3⟩ := execF_ins (lv := fun i => exL i y || lv i) n y s1 t1 h1 _ _ _ a1.symm (fun i q => by simp [q]) hX.2 q3
        exact ⟨e2, t3, h2, m2, s2, by simp only [execF, q1, q5], (a3.symm.mono fun i q => by simp at q; exact q.2).trans a2, q4⟩
      | ret => exact ⟨_, t1, h1, m1, s1, by simp only [execF, q1], a1.mono fun i q => by simp at q; exact q.2, q2⟩
      | exit id => exact ⟨_, t1, h1, m1, s1, by simp only [execF, q1], a1.mono fun i q => by simp at q; exact q.2, q2⟩
    | ite c x y =>
      simp only [noX, Bool.and_eq_true] at hX
      simp only [execU] at e
      split at e
      · rename_i b hb
        rcases brU_holds e with ⟨hq, m, hk⟩ | ⟨hq, m, hk⟩
        · subst hq
          obtain ⟨e1, t1, h1, m1, s1, q1, a1, q2⟩ := execU_holds n x t h m lv K hX.1 hk
          exact ⟨e1, t1, h1, m1, s1, by simp only [execF, hb, q1], a1, q2⟩
        · subst hq
          obtain ⟨e1, t1, h1, m1, s1, q1, a1, q2⟩ := execU_holds n y t h m lv K hX.2 hk
          exact ⟨e1, t1, h1, m1, s1, by simp only [execF, hb, q1], a1, q2⟩
      · cases e
    | block id x =>
      obtain ⟨e1, t1, h1, m1, s1, q1, a1, q2⟩ := execU_holds n x t h hn lv _ (by simpa [noX] using hX) e
      cases e1 with
      | normal => exact ⟨_, t1, h1, m1, s1, by simp only [execF, q1], a1, q2⟩
      | ret => exact ⟨_, t1, h1, m1, s1, by simp only [execF, q1], a1, q2⟩
      | exit i =>
        dsimp only at q2
        split at q2
        · rename_i hi; exact ⟨_, t1, h1, m1, s1, by simp only [execF, q1, hi, if_true], a1, q2⟩
        · rename_i hi; exact ⟨_, t1, h1, m1, s1, by simp only [execF, q1, hi, if_false], a1, q2⟩
    | loop x =>
      have hX' : noX x = true := by simpa [noX] using hX
      obtain ⟨e1, t1, h1, m1, s1, q1, a1, q2⟩ := execU_holds n x t h hn _ _ hX' e
      cases e1 with
      | normal =>
        obtain ⟨e2, t2, h2, m2, s2, q3, a2, q4⟩ := execU_holds n (.loop x) s1 h1 m1 lv K hX q2
        obtain ⟨t3, q5, a3⟩ := execF_ins (lv := fun i => exL i x || lv i) n (.loop x) s1 t1 h1 _ _ _ a1.symm (fun i q => by simp only [exL] at q; simp [q]) hX q3
        exact ⟨e2, t3, h2, m2, s2, by simp only [execF, q1, q5], (a3.symm.mono fun i q => by simp at q; exact q.2).trans a2, q4⟩
      | ret => exact ⟨_, t1, h1, m1, s1, by simp only [execF, q1], a1.mono fun i q => by simp at q; exact q.2, q2⟩
      | exit i => exact ⟨_, t1, h1, m1, s1, by simp only [execF, q1], a1.mono fun i q => by simp at q; exact q.2, q2⟩
    | exit id => exact ⟨_, _, _, _, _, rfl, .refl _, e⟩
    | ret => exact ⟨_, _, _, _, _, rfl, .refl _, e⟩

def rdRes : Res → Nat
  | .tmp j => j
  | .cell j _ => j
def resLv (rs : List Res) : Lv := fun i => rs.any fun r => rdRes r == i
theorem resA1_ag {t s : Fr} {h : Heap} {r : Res} {lv : Lv} (ha : Ag (fun i => lv i = false) t s) (hr : lv (rdRes r) = true) : resA1 t h r = resA1 s h r := by
  have key : t.getD (rdRes r) undef = s.getD (rdRes r) undef := ha.2 _ fun q => by
    have q' : lv (rdRes r) = false := q
    rw [hr] at q'; cases q'
  cases r with
  | tmp j =>
    have : t.getD j undef = s.getD j undef := key
    simp only [resA1, this]
  | cell j n =>
    have : ev t (.tmp j) = ev s (.tmp j) := key
    simp only [resA1, pureA, this]
theorem resAs_ag {t s : Fr} {h : Heap} {lv : Lv} (ha : Ag (fun i => lv i = false) t s) : ∀ (rs : List Res), (∀ i, resLv rs i = true → lv i = true) → resAs t h rs = resAs s h rs
  | [], _ => rfl
  | r :: l, hr => by
    simp only [resAs]
    rw [resA1_ag ha (r := r) (hr _ (by simp [resLv])), resAs_ag ha l fun i q => hr i (by simp only [resLv, List.any_cons, Bool.or_eq_true]; exact .inr q)]

def fnU (T : Plain) (Γ : Env) (fuel : Nat) (F : FnIL) (hn : Hj) (args : List Value) (h : Heap) : Tr :=
  if noX F.body then execU T Γ fuel F.body (args ++ List.replicate (F.ntmps - args.length) undef) h hn (resLv F.res) fun e t' h' _ => retT h F.res e t' h' else .fail

theorem fnU_sim {P : Program} {qt : List Nat} (hm : P.follows .mixedOrders = true) {T : Plain} {Γ : Env} (hΓ : EnvOk P (T.env Γ)) (hq : QuietEnv qt (T.env Γ)) {f : Nat} {F : FnIL} (hf : stF P qt f = some F) {fuel : Nat} {hn : Hj} {args : List Value} {h : Heap}
    {Q : Value → Heap → Prop} (e : (fnU T Γ fuel F hn args h).holds Q) : Sim P f args h Q := by
  unfold fnU at e
  split at e
  · rename_i hX
    obtain ⟨ex, t', h', m, s, h1, a1, h2⟩ := execU_holds fuel F.body _ h hn _ _ hX e
    have hres : resA s h' F.res = resA t' h' F.res := by
      simp only [resA, resAs_ag a1 F.res fun i q => q]
    have key : ∀ (hne : ex = .normal ∨ ex = .ret), (match resA s h' F.res with
        | some v => if letGo h v h' then Tr.ret v (h'.take h.length) else .ret v h'
        | none => .fail).holds Q → Sim P f args h Q := by
      intro hne e
      rw [hres] at e
      split at e
      · rename_i v hv
        have base : Sim P f args h fun v1 h2 => v1 = v ∧ h2 = h' := fn_sim hf (execF_sim hm hΓ hq fuel F.body _ h ex t' h' _ h1 ⟨by rcases hne with rfl | rfl <;> simp [Ex.ex], v, hv, rfl, rfl⟩)
        split at e
        · rename_i hc
          unfold letGo at hc
          simp only [Bool.and_eq_true, decide_eq_true_eq] at hc
          exact base.cut fun v1 h2 ⟨q1, q2⟩ => by subst q1; subst q2; exact ⟨hc.1.1, hc.1.2, hc.2, e⟩
        · exact base.mono fun v1 h2 ⟨q1, q2⟩ => by subst q1; subst q2; exact e
      · cases e
    cases ex with
    | exit i => cases h2
    | normal => exact key (.inl rfl) h2
    | ret => exact key (.inr rfl) h2
  · cases e

end Go.Am
