/-
  A logic over the kit's wp, part AmD: Am24, Am25, Am26, Am27, Am28, Am29, Am30. No conditions.
-/
import Derived.Test.YtgdojnamjkhknaaQdAmC
namespace Go.Am
set_option linter.all false
inductive Hj where
 | sym (l r : Hj)
 | con (n : Hj)
 | yes (n : Hj)
 | no (n : Hj)
 | val (n : Hj)
 | join (m : Nat) (l r n : Hj)
 | use (d : Nat) (v : Value) (h : Heap) (n : Hj)
 | crs (vals : List (Option (Value × Heap))) (n : Hj)
 | lp (id : Nat) (lv : List Nat) (t : Fr) (h : Heap) (n : Hj)
 | lp2 (id : Nat) (lv : List Nat) (b : Bool) (t : Fr) (h : Heap) (t' : Fr) (h' : Heap) (l r : Hj)
 | nil
def mergeV (b : Bool) : Value → Value → Option Value
 | .bool x, .bool y => some (.bool (bif b then x else y))
 | .int k x, .int k' y => if k = k' then some (.int k (bif b then x else y)) else none
 | _, _ => none
theorem mergeV_eq {b : Bool} {u v w : Value} (e : mergeV b u v = some w) : w = if b then u else v := by
 unfold mergeV at e
 split at e
 ·cases e; cases b <;> rfl
 ·split at e
  ·rename_i hk; cases e; subst hk; cases b <;> rfl
  ·cases e
 ·cases e
def rdOs : Operand → List Nat
 | .tmp i => [i]
 | _ => []
def rdG : Option (Nat × Bool) → List Nat
 | none => []
 | some (i, _) => [i]
def rdOp (o : IOp) : List Nat := rdG o.g ++ (opnds o.k).flatMap rdOs
abbrev Lv := Nat → Bool
def isLive (i : Nat) : List IOp → Lv → Bool
 | [], lv => lv i
 | o :: r, lv => (rdOp o).contains i || (match o.dst with
  | some d => if d = i then false else isLive i r lv
  | none => isLive i r lv)
def exR (i : Nat) : List IOp → Bool
 | [] => false
 | o :: r => (rdOp o).contains i || (match o.dst with
  | some d => if d = i then false else exR i r
  | none => exR i r)
def dfL (i : Nat) : IL → Bool
 | .reg ops => ops.any fun o => o.dst == some i
 | .dreg ops _ => ops.any fun o => o.dst == some i
 | _ => false
def exL (i : Nat) : IL → Bool
 | .reg ops => exR i ops
 | .dreg ops _ => exR i ops
 | .seq x y => exL i x || (!(dfL i x) && exL i y)
 | .ite c x y => (rdOs c).contains i || (exL i x || exL i y)
 | .block _ x => exL i x
 | .loop x => exL i x
 | _ => false
theorem live_of {i : Nat} {lv : Lv} : ∀ (ops : List IOp), exR i ops = false → lv i = false → isLive i ops lv = false
 | [], _, h => h
 | o :: r, h1, h2 => by
  simp only [exR, isLive, Bool.or_eq_false_iff] at h1 ⊢
  refine ⟨h1.1, ?_⟩
  have h3 := h1.2
  split at h3
  ·rename_i d hd
   split at h3
   ·rename_i q; simp [q]
   ·rename_i q; simp [q, live_of r h3 h2]
  ·exact live_of r h3 h2
theorem live_df {i : Nat} {lv : Lv} : ∀ (ops : List IOp), exR i ops = false → (lv i = false ∨ (ops.any fun o => o.dst == some i) = true) → isLive i ops lv = false
 | [], _, h => by
  rcases h with h | h
  ·exact h
  ·simp at h
 | o :: r, h1, h2 => by
  simp only [exR, isLive, Bool.or_eq_false_iff] at h1 ⊢
  refine ⟨h1.1, ?_⟩
  have h3 := h1.2
  split at h3
  ·rename_i d hd
   split at h3
   ·rename_i q; simp [q]
   ·rename_i q
    simp only [q, if_false]
    refine live_df r h3 ?_
    rcases h2 with h2 | h2
    ·exact .inl h2
    ·right
     simp only [List.any_cons, hd, Bool.or_eq_true] at h2
     rcases h2 with h2 | h2
     ·simp at h2; exact absurd h2 q
     ·exact h2
  ·rename_i hd
   refine live_df r h3 ?_
   rcases h2 with h2 | h2
   ·exact .inl h2
   ·right
    simp only [List.any_cons, hd, Bool.or_eq_true] at h2
    rcases h2 with h2 | h2
    ·simp at h2
    ·exact h2
def Ag (D : Nat → Prop) (t t' : Fr) : Prop := t.length = t'.length ∧ ∀ i, ¬ D i → t.getD i undef = t'.getD i undef
theorem Ag.refl {D : Nat → Prop} (t : Fr) : Ag D t t := ⟨rfl, fun _ _ => rfl⟩
theorem Ag.symm {D : Nat → Prop} {t t' : Fr} (h : Ag D t t') : Ag D t' t := ⟨h.1.symm, fun i hi => (h.2 i hi).symm⟩
theorem Ag.trans {D : Nat → Prop} {t t' t'' : Fr} (h : Ag D t t') (h' : Ag D t' t'') : Ag D t t'' := ⟨h.1.trans h'.1, fun i hi => (h.2 i hi).trans (h'.2 i hi)⟩
theorem Ag.mono {D D' : Nat → Prop} {t t' : Fr} (h : Ag D t t') (hd : ∀ i, D i → D' i) : Ag D' t t' := ⟨h.1, fun i hi => h.2 i fun q => hi (hd i q)⟩
theorem getD_set {t : Fr} {d i : Nat} {v : Value} : (t.set d v).getD i undef = if d = i ∧ d < t.length then v else t.getD i undef := by
 simp only [List.getD, List.getElem?_set]
 by_cases h : d = i
 ·subst h
  by_cases h1 : d < t.length
  ·simp [h1]
  ·simp [h1]
 ·simp [h]
theorem put_len {t : Fr} {d : Option Nat} {v : Value} : (put t d v).length = t.length := by cases d <;> simp [put]
theorem Ag.put {D : Nat → Prop} {t t' : Fr} (h : Ag D t t') (d : Option Nat) (v : Value) : Ag (fun i => D i ∧ d ≠ some i) (put t d v) (put t' d v) := by
 refine ⟨by simp [put_len, h.1], fun i hi => ?_⟩
 cases d with
 | none => exact h.2 i fun q => hi ⟨q, by simp⟩
 | some d =>
  simp only [Am.put, getD_set, ← h.1]
  by_cases hd : d = i
  ·subst hd
   by_cases hl : d < t.length
   ·simp [hl]
   ·simp only [hl, and_false, if_false]
    have e1 : t.getD d undef = undef := by simp [List.getD, List.getElem?_eq_none (by omega : t.length ≤ d)]
    have e2 : t'.getD d undef = undef := by simp [List.getD, List.getElem?_eq_none (by rw [← h.1]; omega : t'.length ≤ d)]
    rw [e1, e2]
  ·simp only [hd, false_and, if_false]
   exact h.2 i fun q => hi ⟨q, by simpa using hd⟩
theorem mem_rd {k : IK} {i : Nat} (h : Operand.tmp i ∈ opnds k) : i ∈ (opnds k).flatMap rdOs := List.mem_flatMap.2 ⟨_, h, by simp [rdOs]⟩
theorem ag_want {D : Nat → Prop} {t t' : Fr} (ha : Ag D t t') {o : IOp} (hd : ∀ i, D i → (rdOp o).contains i = false) : want t o.g = want t' o.g := by
 unfold want
 cases hg : o.g with
 | none => rfl
 | some p =>
  obtain ⟨i, b⟩ := p
  have hi : ¬ D i := fun q => by
   have := hd i q
   simp [rdOp, hg, rdG] at this
  simp only [ha.2 i hi]
theorem ag_op {D : Nat → Prop} {t t' : Fr} (ha : Ag D t t') {o : IOp} {Γ : Env} {h : Heap} (hd : ∀ i, D i → (rdOp o).contains i = false) : opA Γ o.k t h = opA Γ o.k t' h := by
 apply opA_congr
 intro x hx
 cases x with
 | tmp i =>
  have hi : ¬ D i := fun q => by
   have h1 := hd i q
   have h2 : i ∈ rdOp o := List.mem_append.2 (.inr (mem_rd hx))
   simp at h1
   exact h1 h2
  exact ha.2 i hi
 | _ => rfl
theorem runR_ins {Γ : Env} {lv : Lv} : ∀ (ops : List IOp) (D : Nat → Prop) (t t' : Fr) (h : Heap) (t1 : Fr) (h1 : Heap), Ag D t t' → (∀ i, D i → isLive i ops lv = false) → runR Γ ops t h = some (t1, h1) →
  ∃ t1', runR Γ ops t' h = some (t1', h1) ∧ Ag (fun i => lv i = false) t1 t1'
 | [], D, t, t', h, t1, h1, ha, hd, e => by
  cases e
  exact ⟨t', rfl, ha.mono hd⟩
 | o :: r, D, t, t', h, t1, h1, ha, hd, e => by
  have hd1 : ∀ i, D i → (rdOp o).contains i = false := fun i hi => by
   have := hd i hi
   simp only [isLive, Bool.or_eq_false_iff] at this
   exact this.1
  have hd2 : ∀ i, (D i ∧ o.dst ≠ some i) → isLive i r lv = false := fun i ⟨hi, hn⟩ => by
   have := hd i hi
   simp only [isLive, Bool.or_eq_false_iff] at this
   have h2 := this.2
   split at h2
   ·rename_i d hd
    split at h2
    ·rename_i q; subst q; exact absurd hd hn
    ·exact h2
   ·exact h2
  simp only [runR] at e ⊢
  rw [← ag_want ha hd1, ← ag_op ha hd1]
  split at e
  ·rename_i hw
   rw [if_pos hw]
   split at e
   ·rename_i v h2 hv
    exact runR_ins r _ _ _ h2 t1 h1 (ha.put o.dst v) hd2 e
   ·cases e
  ·rename_i hw
   rw [if_neg hw]
   exact runR_ins r _ _ _ h t1 h1 (ha.put o.dst undef) hd2 e
theorem isLive_app {d : Nat} {lv : Lv} : ∀ (a b : List IOp), isLive d (a ++ b) lv = isLive d a (fun i => isLive i b lv)
 | [], _ => rfl
 | o :: r, b => by
  simp only [List.cons_append, isLive]
  rw [isLive_app r b]
theorem crossB_ins {Γ : Env} {lv : Lv} {os : List IOp} {D : Nat → Prop} {t t' : Fr} {h : Heap} (ha : Ag D t t') (hd : ∀ i, D i → isLive i os lv = false) : ∀ (X : List (Nat × Nat)), crossB Γ os t h X = true → crossB Γ os t' h X = true
 | [], _ => rfl
 | (i, j) :: r, e => by
  simp only [crossB, Bool.and_eq_true] at e ⊢
  refine ⟨?_, crossB_ins ha hd r e.2⟩
  have e1 := e.1
  have run : ∀ n (t1 : Fr) (h1 : Heap), runR Γ (os.take n) t h = some (t1, h1) → ∃ t1', runR Γ (os.take n) t' h = some (t1', h1) ∧ Ag (fun d => isLive d (os.drop n) lv = false) t1 t1' := fun n t1 h1 q =>
   runR_ins (os.take n) D t t' h t1 h1 ha (fun d hD => by have := hd d hD; rw [← List.take_append_drop n os, isLive_app] at this; exact this) q
  split at e1
  ·rename_i x ti hi tj hj hx q1 q2
   obtain ⟨ti', r1, a1⟩ := run _ _ _ q1
   obtain ⟨tj', r2, _⟩ := run _ _ _ q2
   have hdr : os.drop i = x :: os.drop (i + 1) := by
    have hlt : i < os.length := (List.getElem?_eq_some_iff.1 hx).1
    rw [List.drop_eq_getElem_cons hlt]
    have := (List.getElem?_eq_some_iff.1 hx).2
    rw [this]
   have hrd : ∀ d, isLive d (os.drop i) lv = false → (rdOp x).contains d = false := fun d q => by
    rw [hdr] at q
    simp only [isLive, Bool.or_eq_false_iff] at q
    exact q.1
   rw [hx, r1, r2]
   simp only [← ag_want a1 hrd, ← ag_op (Γ := Γ) (h := hi) a1 hrd, ← ag_op (Γ := Γ) (h := hj) a1 hrd]
   exact e1
  ·cases e1
theorem execF_ins0 {Γ : Env} : ∀ (n : Nat) (lv : Lv) (x : IL) (t t' : Fr) (h : Heap) (e : Ex) (t1 : Fr) (h1 : Heap), Ag (fun i => lv i = false) t t' → (∀ i, exL i x = true → lv i = true) →
  execF Γ n x t h = some (e, t1, h1) → ∃ t1', execF Γ n x t' h = some (e, t1', h1) ∧ Ag (fun i => (lv i || dfL i x) = false) t1 t1'
 | 0, _, _, _, _, _, _, _, _, _, _, e => by cases e
 | n + 1, lv, x, t, t', h, e, t1, h1, ha, hx, he => by
  have reg : ∀ (ops : List IOp), (∀ i, exR i ops = true → lv i = true) → ∀ i, lv i = false → isLive i ops (fun i => lv i || ops.any fun o => o.dst == some i) = false := fun ops hx i hi => by
   refine live_df ops ?_ ?_
   ·cases q : exR i ops with
    | false => rfl
    | true => have := hx i q; rw [hi] at this; cases this
   ·cases q : (ops.any fun o => o.dst == some i) with
    | false => left; simp only [hi, q, Bool.or_false]
    | true => exact .inr rfl
  cases x with
  | skip => cases he; exact ⟨t', rfl, ha.mono fun i q => by simpa [dfL] using q⟩
  | exit id => cases he; exact ⟨t', rfl, ha.mono fun i q => by simpa [dfL] using q⟩
  | ret => cases he; exact ⟨t', rfl, ha.mono fun i q => by simpa [dfL] using q⟩
  | reg ops =>
   simp only [execF] at he ⊢
   split at he
   ·rename_i t2 h2 e2
    cases he
    obtain ⟨t3, e3, a3⟩ := runR_ins ops _ t t' h _ _ ha (reg ops fun i q => hx i (by simpa [exL] using q)) e2
    exact ⟨t3, by rw [e3], a3⟩
   ·cases he
  | dreg ops X =>
   have hd := reg ops fun i q => hx i (by simpa [exL] using q)
   simp only [execF] at he ⊢
   split at he
   ·rename_i hc
    rw [if_pos (crossB_ins ha hd X hc)]
    split at he
    ·rename_i t2 h2 e2
     cases he
     obtain ⟨t3, e3, a3⟩ := runR_ins ops _ t t' h _ _ ha hd e2
     exact ⟨t3, by rw [e3], a3⟩
    ·cases he
   ·cases he
  | seq x y =>
   simp only [exL, Bool.or_eq_true, Bool.and_eq_true] at hx
   simp only [execF] at he ⊢
   split at he
   ·rename_i t2 h2 e2
    obtain ⟨t3, e3, a3⟩ := execF_ins0 n lv x t t' h _ _ _ ha (fun i q => hx i (.inl q)) e2
    obtain ⟨t4, e4, a4⟩ := execF_ins0 n (fun i => lv i || dfL i x) y t2 t3 h2 _ _ _ a3 (fun i q => by
     cases r : dfL i x with
     | true => simp
     | false => simp [hx i (.inr ⟨by simp [r], q⟩)]) he
    exact ⟨t4, by rw [e3]; exact e4, a4.mono fun i q => by simp only [Bool.or_eq_false_iff, dfL] at q ⊢; exact ⟨q.1.1, trivial⟩⟩
   ·rename_i hne
    obtain ⟨t3, e3, a3⟩ := execF_ins0 n lv x t t' h _ _ _ ha (fun i q => hx i (.inl q)) he
    refine ⟨t3, ?_, a3.mono fun i q => by simp only [Bool.or_eq_false_iff, dfL] at q ⊢; exact ⟨q.1, trivial⟩⟩
    rw [e3]
    cases e with
    | normal => exact absurd he (hne _ _)
    | _ => rfl
  | ite c x y =>
   simp only [exL, Bool.or_eq_true] at hx
   have hc : ev t c = ev t' c := by
    cases c with
    | tmp i => exact ha.2 i fun q => by have := hx i (.inl (by simp [rdOs])); rw [q] at this; cases this
    | _ => rfl
   have less : ∀ (z : IL) i, (lv i || dfL i z) = false → (lv i || dfL i (.ite c x y)) = false := fun z i q => by simp only [Bool.or_eq_false_iff, dfL] at q ⊢; exact ⟨q.1, trivial⟩
   simp only [execF, ← hc] at he ⊢
   split at he
   ·obtain ⟨t3, e3, a3⟩ := execF_ins0 n lv x t t' h _ _ _ ha (fun i q => hx i (.inr (.inl q))) he
    exact ⟨t3, e3, a3.mono (less x)⟩
   ·obtain ⟨t3, e3, a3⟩ := execF_ins0 n lv y t t' h _ _ _ ha (fun i q => hx i (.inr (.inr q))) he
    exact ⟨t3, e3, a3.mono (less y)⟩
   ·cases he
  | block id x =>
   have less : ∀ i, (lv i || dfL i x) = false → (lv i || dfL i (.block id x)) = false := fun i q => by simp only [Bool.or_eq_false_iff, dfL] at q ⊢; exact ⟨q.1, trivial⟩
   simp only [execF] at he ⊢
   split at he
   ·rename_i i t2 h2 e2
    obtain ⟨t3, e3, a3⟩ := execF_ins0 n lv x t t' h _ _ _ ha (fun i q => hx i (by simpa [exL] using q)) e2
    rw [e3]
    dsimp only
    split at he
    ·rename_i hi; cases he; exact ⟨t3, by rw [if_pos hi], a3.mono less⟩
    ·rename_i hi; cases he; exact ⟨t3, by rw [if_neg hi], a3.mono less⟩
   ·rename_i hne
    obtain ⟨t3, e3, a3⟩ := execF_ins0 n lv x t t' h _ _ _ ha (fun i q => hx i (by simpa [exL] using q)) he
    refine ⟨t3, ?_, a3.mono less⟩
    rw [e3]
    cases e with
    | exit i => exact absurd he (hne _ _ _)
    | _ => rfl
  | loop x =>
   have less : ∀ i, (lv i || dfL i x) = false → (lv i || dfL i (.loop x)) = false := fun i q => by simp only [Bool.or_eq_false_iff, dfL] at q ⊢; exact ⟨q.1, trivial⟩
   have hx' : ∀ i, exL i x = true → lv i = true := fun i q => hx i (by simpa [exL] using q)
   simp only [execF] at he ⊢
   split at he
   ·rename_i t2 h2 e2
    obtain ⟨t3, e3, a3⟩ := execF_ins0 n lv x t t' h _ _ _ ha hx' e2
    obtain ⟨t4, e4, a4⟩ := execF_ins0 n lv (.loop x) t2 t3 h2 _ _ _ (a3.mono fun i q => by simp only [Bool.or_eq_false_iff] at q; exact q.1) hx he
    exact ⟨t4, by rw [e3]; exact e4, a4⟩
   ·rename_i hne
    obtain ⟨t3, e3, a3⟩ := execF_ins0 n lv x t t' h _ _ _ ha hx' he
    refine ⟨t3, ?_, a3.mono less⟩
    rw [e3]
    cases e with
    | normal => exact absurd he (hne _ _)
    | _ => rfl
theorem execF_ins {Γ : Env} {lv : Lv} (n : Nat) (x : IL) (t t' : Fr) (h : Heap) (e : Ex) (t1 : Fr) (h1 : Heap) (ha : Ag (fun i => lv i = false) t t') (hx : ∀ i, exL i x = true → lv i = true)
  (he : execF Γ n x t h = some (e, t1, h1)) : ∃ t1', execF Γ n x t' h = some (e, t1', h1) ∧ Ag (fun i => lv i = false) t1 t1' := by
 obtain ⟨t3, e3, a3⟩ := execF_ins0 n lv x t t' h e t1 h1 ha hx he
 exact ⟨t3, e3, a3.mono fun i q => by simp only [Bool.or_eq_false_iff] at q; exact q.1⟩
theorem execF_mono {Γ : Env} : ∀ (n m : Nat) (x : IL) (t : Fr) (h : Heap) (r : Ex × Fr × Heap), n ≤ m → execF Γ n x t h = some r → execF Γ m x t h = some r
 | 0, _, _, _, _, _, _, e => by cases e
 | _ + 1, 0, _, _, _, _, hm, _ => by omega
 | n + 1, m + 1, x, t, h, r, hm, e => by
  have hm' : n ≤ m := by omega
  cases x with
  | skip => exact e
  | exit id => exact e
  | ret => exact e
  | reg ops => exact e
  | dreg ops X => exact e
  | seq x y =>
   simp only [execF] at e ⊢
   split at e
   ·rename_i t2 h2 e2
    rw [execF_mono n m x t h _ hm' e2]
    exact execF_mono n m y t2 h2 _ hm' e
   ·rename_i hne
    rw [execF_mono n m x t h _ hm' e]
    obtain ⟨ex, t2, h2⟩ := r
    cases ex with
    | normal => exact absurd e (hne _ _)
    | _ => rfl
  | ite c x y =>
   simp only [execF] at e ⊢
   split at e
   ·exact execF_mono n m x t h _ hm' e
   ·exact execF_mono n m y t h _ hm' e
   ·cases e
  | block id x =>
   simp only [execF] at e ⊢
   split at e
   ·rename_i i t2 h2 e2
    rw [execF_mono n m x t h _ hm' e2]
    exact e
   ·rename_i hne
    rw [execF_mono n m x t h _ hm' e]
    obtain ⟨ex, t2, h2⟩ := r
    cases ex with
    | exit i => exact absurd e (hne _ _ _)
    | _ => rfl
  | loop x =>
   simp only [execF] at e ⊢
   split at e
   ·rename_i t2 h2 e2
    rw [execF_mono n m x t h _ hm' e2]
    exact execF_mono n m (.loop x) t2 h2 _ hm' e
   ·rename_i hne
    rw [execF_mono n m x t h _ hm' e]
    obtain ⟨ex, t2, h2⟩ := r
    cases ex with
    | normal => exact absurd e (hne _ _)
    | _ => rfl
abbrev Post2 := Ex → Fr → Heap → Prop
def Wp (Γ : Env) (lv : Lv) (x : IL) (t : Fr) (h : Heap) (K : Post2) : Prop :=
 ∃ n e t' h' s, execF Γ n x t h = some (e, t', h') ∧ Ag (fun i => lv i = false) t' s ∧ K e s h'
theorem Wp.mono {Γ : Env} {lv : Lv} {x : IL} {t : Fr} {h : Heap} {K K' : Post2} (w : Wp Γ lv x t h K) (k : ∀ e s h', K e s h' → K' e s h') : Wp Γ lv x t h K' :=
 let ⟨n, e, t', h', s, a, b, c⟩ := w
 ⟨n, e, t', h', s, a, b, k _ _ _ c⟩
theorem Wp.less {Γ : Env} {lv lv' : Lv} {x : IL} {t : Fr} {h : Heap} {K : Post2} (w : Wp Γ lv x t h K) (k : ∀ i, lv' i = true → lv i = true) : Wp Γ lv' x t h K :=
 have key : ∀ i, lv i = false → lv' i = false := fun i q => by
  cases r : lv' i with
  | false => rfl
  | true => rw [k i r] at q; cases q
 let ⟨n, e, t', h', s, a, b, c⟩ := w
 ⟨n, e, t', h', s, a, b.mono key, c⟩
theorem Wp.ag {Γ : Env} {lv : Lv} {x : IL} {t t0 : Fr} {h : Heap} {K : Post2} (a : Ag (fun i => (exL i x || lv i) = false) t t0) (w : Wp Γ lv x t0 h K) : Wp Γ lv x t h K := by
 obtain ⟨n, e, t', h', s, q1, q2, q3⟩ := w
 obtain ⟨t1, r1, r2⟩ := execF_ins (lv := fun i => exL i x || lv i) n x t0 t h _ _ _ a.symm (fun i q => by simp [q]) q1
 exact ⟨n, e, t1, h', s, r1, (r2.symm.mono fun i q => by simp at q; exact q.2).trans q2, q3⟩
def thenK (J : Fr → Heap → Prop) (K : Post2) : Post2 := fun e t h => match e with
 | .normal => J t h
 | e => K e t h
theorem Wp.seq {Γ : Env} {lv : Lv} {x y : IL} {t : Fr} {h : Heap} {K : Post2} (w : Wp Γ (fun i => exL i y || lv i) x t h (thenK (fun t h => Wp Γ lv y t h K) K)) : Wp Γ lv (.seq x y) t h K := by
 obtain ⟨n, e, t1, h1, s1, q1, a1, q2⟩ := w
 have less : ∀ i, (exL i y || lv i) = false → lv i = false := fun i q => by simp at q; exact q.2
 cases e with
 | normal =>
  obtain ⟨m, e2, t2, h2, s2, q3, a2, q4⟩ := Wp.ag a1 q2
  exact ⟨max n m + 1, e2, t2, h2, s2, by simp only [execF, execF_mono n (max n m) x t h _ (by omega) q1, execF_mono m (max n m) y t1 h1 _ (by omega) q3], a2, q4⟩
 | ret => exact ⟨n + 1, .ret, t1, h1, s1, by simp only [execF, q1], a1.mono less, q2⟩
 | exit id => exact ⟨n + 1, .exit id, t1, h1, s1, by simp only [execF, q1], a1.mono less, q2⟩
theorem Wp.iteT {Γ : Env} {lv : Lv} {c : Operand} {x y : IL} {t : Fr} {h : Heap} {K : Post2} (hc : ev t c = .bool true) (w : Wp Γ lv x t h K) : Wp Γ lv (.ite c x y) t h K := by
 obtain ⟨n, e, t1, h1, s1, q1, a1, q2⟩ := w
 exact ⟨n + 1, e, t1, h1, s1, by simp only [execF, hc, q1], a1, q2⟩
theorem Wp.iteF {Γ : Env} {lv : Lv} {c : Operand} {x y : IL} {t : Fr} {h : Heap} {K : Post2} (hc : ev t c = .bool false) (w : Wp Γ lv y t h K) : Wp Γ lv (.ite c x y) t h K := by
 obtain ⟨n, e, t1, h1, s1, q1, a1, q2⟩ := w
 exact ⟨n + 1, e, t1, h1, s1, by simp only [execF, hc, q1], a1, q2⟩
def endK (id : Nat) (K : Post2) : Post2 := fun e t h => match e with
 | .exit i => if i = id then K .normal t h else K (.exit i) t h
 | e => K e t h
theorem Wp.block {Γ : Env} {lv : Lv} {id : Nat} {x : IL} {t : Fr} {h : Heap} {K : Post2} (w : Wp Γ lv x t h (endK id K)) : Wp Γ lv (.block id x) t h K := by
 obtain ⟨n, e, t1, h1, s1, q1, a1, q2⟩ := w
 cases e with
 | normal => exact ⟨n + 1, .normal, t1, h1, s1, by simp only [execF, q1], a1, q2⟩
 | ret => exact ⟨n + 1, .ret, t1, h1, s1, by simp only [execF, q1], a1, q2⟩
 | exit i =>
  simp only [endK] at q2
  split at q2
  ·rename_i hi; exact ⟨n + 1, .normal, t1, h1, s1, by simp only [execF, q1, hi, if_true], a1, q2⟩
  ·rename_i hi; exact ⟨n + 1, .exit i, t1, h1, s1, by simp only [execF, q1, hi, if_false], a1, q2⟩
theorem Wp.loop1 {Γ : Env} {lv : Lv} {x : IL} {t : Fr} {h : Heap} {K : Post2} (w : Wp Γ (fun i => exL i x || lv i) x t h (thenK (fun t h => Wp Γ lv (.loop x) t h K) K)) : Wp Γ lv (.loop x) t h K := by
 obtain ⟨n, e, t1, h1, s1, q1, a1, q2⟩ := w
 have less : ∀ i, (exL i x || lv i) = false → lv i = false := fun i q => by simp at q; exact q.2
 cases e with
 | normal =>
  obtain ⟨m, e2, t2, h2, s2, q3, a2, q4⟩ := Wp.ag (a1.mono fun i q => by simpa [exL] using q) q2
  exact ⟨max n m + 1, e2, t2, h2, s2, by simp only [execF, execF_mono n (max n m) x t h _ (by omega) q1, execF_mono m (max n m) (.loop x) t1 h1 _ (by omega) q3], a2, q4⟩
 | ret => exact ⟨n + 1, .ret, t1, h1, s1, by simp only [execF, q1], a1.mono less, q2⟩
 | exit id => exact ⟨n + 1, .exit id, t1, h1, s1, by simp only [execF, q1], a1.mono less, q2⟩
theorem Wp.loop {Γ : Env} {lv : Lv} {x : IL} {K : Post2} (I : Nat → Fr → Heap → Prop)
  (step : ∀ n t h, I n t h → Wp Γ (fun i => exL i x || lv i) x t h (thenK (fun t h => ∃ m, m < n ∧ I m t h) K)) : ∀ n t h, I n t h → Wp Γ lv (.loop x) t h K := by
 intro n
 induction n using Nat.strongRecOn with
 | _ n ih =>
  intro t h hI
  refine Wp.loop1 ((step n t h hI).mono fun e s h' q => ?_)
  cases e with
  | normal =>
   obtain ⟨m, hm, hI'⟩ := q
   exact ih m hm s h' hI'
  | ret => exact q
  | exit id => exact q
theorem runR_len0 {Γ : Env} : ∀ (ops : List IOp) (t : Fr) (h : Heap) (t1 : Fr) (h1 : Heap), runR Γ ops t h = some (t1, h1) → t1.length = t.length
 | [], t, h, t1, h1, e => by cases e; rfl
 | o :: r, t, h, t1, h1, e => by
  simp only [runR] at e
  split at e
  ·split at e
   ·exact (runR_len0 r _ _ _ _ e).trans put_len
   ·cases e
  ·exact (runR_len0 r _ _ _ _ e).trans put_len
theorem execF_len {Γ : Env} : ∀ (n : Nat) (x : IL) (t : Fr) (h : Heap) (e : Ex) (t1 : Fr) (h1 : Heap), execF Γ n x t h = some (e, t1, h1) → t1.length = t.length
 | 0, _, _, _, _, _, _, e => by cases e
 | n + 1, x, t, h, e, t1, h1, he => by
  cases x with
  | skip => cases he; rfl
  | exit id => cases he; rfl
  | ret => cases he; rfl
  | reg ops =>
   simp only [execF] at he
   split at he
   ·rename_i e2; cases he; exact runR_len0 _ _ _ _ _ e2
   ·cases he
  | dreg ops X =>
   simp only [execF] at he
   split at he
   ·split at he
    ·rename_i e2; cases he; exact runR_len0 _ _ _ _ _ e2
    ·cases he
   ·cases he
  | seq x y =>
   simp only [execF] at he
   split at he
   ·rename_i e2; exact (execF_len n y _ _ _ _ _ he).trans (execF_len n x _ _ _ _ _ e2)
   ·exact execF_len n x _ _ _ _ _ he
  | ite c x y =>
   simp only [execF] at he
   split at he
   ·exact execF_len n x _ _ _ _ _ he
   ·exact execF_len n y _ _ _ _ _ he
   ·cases he
  | block id x =>
   simp only [execF] at he
   split at he
   ·rename_i e2
    split at he
    ·cases he; exact execF_len n x _ _ _ _ _ e2
    ·cases he; exact execF_len n x _ _ _ _ _ e2
   ·exact execF_len n x _ _ _ _ _ he
  | loop x =>
   simp only [execF] at he
   split at he
   ·rename_i e2; exact (execF_len n (.loop x) _ _ _ _ _ he).trans (execF_len n x _ _ _ _ _ e2)
   ·exact execF_len n x _ _ _ _ _ he
theorem getD_over {t : Fr} {i : Nat} (h : t.length ≤ i) : t.getD i undef = undef := by simp [List.getD, List.getElem?_eq_none h]
theorem Wp.lessN {Γ : Env} {lv lv' : Lv} {x : IL} {t : Fr} {h : Heap} {K : Post2} (w : Wp Γ lv x t h K) (k : ∀ i, i < t.length → lv' i = true → lv i = true) : Wp Γ lv' x t h K := by
 obtain ⟨n, e, t', h', s, a, b, c⟩ := w
 refine ⟨n, e, t', h', s, a, ⟨b.1, fun i hi => ?_⟩, c⟩
 have l := execF_len n x t h e t' h' a
 rcases Nat.lt_or_ge i t.length with q | q
 ·refine b.2 i fun r => ?_
  have : lv' i = true := by
   cases z : lv' i with
   | true => rfl
   | false => exact absurd z hi
  have r' : lv i = false := r
  rw [k i q this] at r'
  cases r'
 ·rw [getD_over (by omega), getD_over (by rw [← b.1]; omega)]
def inL (l : List Nat) : Lv := fun i => l.contains i
theorem Wp.ends {Γ : Env} {lv : Lv} {x : IL} {t : Fr} {h : Heap} {K K' : Post2} (w : Wp Γ lv x t h K) (k : ∀ e s h', K e s h' → ∃ s', Ag (fun i => lv i = false) s s' ∧ K' e s' h') : Wp Γ lv x t h K' := by
 obtain ⟨n, e, t', h', s, a, b, c⟩ := w
 obtain ⟨s', a', c'⟩ := k _ _ _ c
 exact ⟨n, e, t', h', s', a, b.trans a', c'⟩
def norm (lv : Lv) : Nat → Fr → Fr
 | _, [] => []
 | i, v :: r => (if lv i then v else undef) :: norm lv (i + 1) r
theorem norm_len {lv : Lv} : ∀ (i : Nat) (t : Fr), (norm lv i t).length = t.length
 | _, [] => rfl
 | i, v :: r => by simp only [norm, List.length_cons, norm_len]
theorem norm_get {lv : Lv} : ∀ (i : Nat) (t : Fr) (j : Nat), (norm lv i t).getD j undef = if lv (i + j) then t.getD j undef else undef
 | i, [], j => by simp [norm]
 | i, v :: r, 0 => by simp [norm]
 | i, v :: r, j + 1 => by
  have := norm_get (lv := lv) (i + 1) r j
  simp only [norm, List.getD_cons_succ]
  rw [this, show i + 1 + j = i + (j + 1) by omega]
theorem norm_ag (lv : Lv) (t : Fr) : Ag (fun i => lv i = false) t (norm lv 0 t) := ⟨(norm_len 0 t).symm, fun i hi => by
 rw [norm_get, Nat.zero_add]
 cases q : lv i with
 | true => rfl
 | false => exact absurd q hi⟩
def fr (n : Nat) (l : List (Nat × Value)) : Fr := l.foldl (fun t p => t.set p.1 p.2) (List.replicate n undef)
theorem runR_len {Γ : Env} : ∀ (ops : List IOp) (t : Fr) (h : Heap) (t1 : Fr) (h1 : Heap), runR Γ ops t h = some (t1, h1) → t1.length = t.length ∧ ∀ i, i ∉ ops.filterMap (·.dst) → t1.getD i undef = t.getD i undef
 | [], t, h, t1, h1, e => by cases e; exact ⟨rfl, fun _ _ => rfl⟩
 | o :: r, t, h, t1, h1, e => by
  have key : ∀ (v : Value) (i : Nat), i ∉ (o :: r).filterMap (·.dst) → (put t o.dst v).getD i undef = t.getD i undef := by
   intro v i hi
   cases hd : o.dst with
   | none => rfl
   | some d =>
    simp only [List.filterMap_cons, hd] at hi
    simp only [put, getD_set]
    have : ¬ (d = i) := fun q => hi (by simp [q])
    simp [this]
  have sub : ∀ i, i ∉ (o :: r).filterMap (·.dst) → i ∉ r.filterMap (·.dst) := fun i hi q => hi (by
   rw [List.filterMap_cons]
   cases o.dst with
   | none => exact q
   | some d => exact List.mem_cons_of_mem _ q)
  simp only [runR] at e
  split at e
  ·split at e
   ·obtain ⟨a, b⟩ := runR_len r _ _ _ _ e
    exact ⟨a.trans put_len, fun i hi => (b i (sub i hi)).trans (key _ i hi)⟩
   ·cases e
  ·obtain ⟨a, b⟩ := runR_len r _ _ _ _ e
   exact ⟨a.trans put_len, fun i hi => (b i (sub i hi)).trans (key _ i hi)⟩
theorem runR_app {Γ : Env} : ∀ (a b : List IOp) (t : Fr) (h : Heap) (t1 : Fr) (h1 : Heap), runR Γ a t h = some (t1, h1) → runR Γ (a ++ b) t h = runR Γ b t1 h1
 | [], b, t, h, t1, h1, e => by cases e; rfl
 | o :: r, b, t, h, t1, h1, e => by
  simp only [runR, List.cons_append] at e ⊢
  split at e
  ·rename_i hw
   rw [if_pos hw]
   split at e
   ·rename_i v h2 hv
    exact runR_app r b _ _ _ _ e
   ·cases e
  ·rename_i hw
   rw [if_neg hw]
   exact runR_app r b _ _ _ _ e
def mergeF (b : Bool) (lv : Lv) (t1 t2 : Fr) : List Nat → Fr → Option Fr
 | [], t => some t
 | d :: r, t => if lv d then match mergeV b (t1.getD d undef) (t2.getD d undef) with
   | some v => mergeF b lv t1 t2 r (t.set d v)
   | none => none
  else mergeF b lv t1 t2 r (t.set d undef)
theorem mergeF_ok {b : Bool} {lv : Lv} {t1 t2 : Fr} : ∀ (ds : List Nat) (t t3 : Fr), mergeF b lv t1 t2 ds t = some t3 → t1.length = t.length → t2.length = t.length →
  t3.length = t.length ∧ ∀ i, lv i = true → (i ∈ ds → t3.getD i undef = (if b then t1 else t2).getD i undef) ∧ (i ∉ ds → t3.getD i undef = t.getD i undef)
 | [], t, t3, e, _, _ => by cases e; exact ⟨rfl, fun i _ => ⟨fun h => (by cases h), fun _ => rfl⟩⟩
 | d :: r, t, t3, e, l1, l2 => by
  simp only [mergeF] at e
  split at e
  ·rename_i hl
   split at e
   ·rename_i v hv
    obtain ⟨a, c⟩ := mergeF_ok r _ t3 e (by simpa using l1) (by simpa using l2)
    refine ⟨by simpa using a, fun i hi => ⟨fun hm => ?_, fun hm => ?_⟩⟩
    ·by_cases hr : i ∈ r
     ·exact (c i hi).1 hr
     ·rw [(c i hi).2 hr, getD_set]
      have hdi : d = i := by simpa [hr, eq_comm] using hm
      subst hdi
      have hv' := mergeV_eq hv
      by_cases hlt : d < t.length
      ·simp only [hlt, and_self, if_true, hv']
       cases b <;> rfl
      ·simp only [hlt, and_false, if_false]
       have e0 : ∀ t : Fr, t.length ≤ d → t.getD d undef = undef := fun t h => by simp [List.getD, List.getElem?_eq_none h]
       rw [e0 t (by omega)]
       cases b
       ·exact (e0 t2 (by omega)).symm
       ·exact (e0 t1 (by omega)).symm
    ·have h1 : ¬ i = d := fun q => hm (by simp [q])
     have h2 : i ∉ r := fun q => hm (by simp [q])
     rw [(c i hi).2 h2, getD_set]
     simp [Ne.symm h1]
   ·cases e
  ·rename_i hl
   obtain ⟨a, c⟩ := mergeF_ok r _ t3 e (by simpa using l1) (by simpa using l2)
   refine ⟨by simpa using a, fun i hi => ⟨fun hm => ?_, fun hm => ?_⟩⟩
   ·have h1 : ¬ i = d := fun q => hl (by rw [← q]; exact hi)
    exact (c i hi).1 (by simpa [h1] using hm)
   ·have h1 : ¬ i = d := fun q => hm (by simp [q])
    have h2 : i ∉ r := fun q => hm (by simp [q])
    rw [(c i hi).2 h2, getD_set]
    simp [Ne.symm h1]
def opJ (T : Plain) (Γ : Env) (k : IK) (t : Fr) (h : Heap) (hn : Hj) : Option (Bool × Value × Hj) :=
 match k with
 | .pick c a b => match hn with
  | .val n => match ev t c with
   | .bool c => (mergeV c (ev t a) (ev t b)).map fun v => (true, v, n)
   | _ => none
  | .con n => match ev t c with
   | .bool true => some (true, ev t a, n)
   | .bool false => some (true, ev t b, n)
   | _ => none
  | _ => none
 | .bin .quo x y => match ev t x, ev t y with
  | .int k a, .int k' b => if k = k' then some (!(decide (b = 0)), .int k (k.wrap (a.tdiv b)), hn) else none
  | _, _ => none
 | .bin .rem x y => match ev t x, ev t y with
  | .int k a, .int k' b => if k = k' then some (!(decide (b = 0)), .int k (a.tmod b), hn) else none
  | _, _ => none
 | .call f args => (T.find f (args.map (ev t))).map fun p => (p.1, p.2, hn)
 | k => if effK k then none else (pureA k t h).map fun v => (true, v, hn)
theorem opJ_ok {T : Plain} {Γ : Env} {k : IK} {t : Fr} {h : Heap} {hn : Hj} {q : Bool} {v : Value} {n : Hj} (e : opJ T Γ k t h hn = some (q, v, n)) (hq : q = true) : opA (T.env Γ) k t h = some (v, h) := by
 unfold opJ at e
 split at e
 ·rename_i c a b
  split at e
  ·split at e
   ·rename_i c' hc
    cases hm : mergeV c' (ev t a) (ev t b) with
    | none => rw [hm] at e; cases e
    | some w =>
     rw [hm] at e; cases e
     simp only [opA, pureA, hc, mergeV_eq hm]
   ·cases e
  ·split at e
   ·rename_i hc; cases e; simp only [opA, pureA, hc]; rfl
   ·rename_i hc; cases e; simp only [opA, pureA, hc]; rfl
   ·cases e
  ·cases e
 ·split at e
  ·rename_i hx hy
   split at e
   ·rename_i hkk
    cases e
    simp only [Bool.not_eq_true', decide_eq_false_iff_not] at hq
    simp only [opA, pureA, hx, hy, binA, hkk, if_true, intBin, hq, if_false]
   ·cases e
  ·cases e
 ·split at e
  ·rename_i hx hy
   split at e
   ·rename_i hkk
    cases e
    simp only [Bool.not_eq_true', decide_eq_false_iff_not] at hq
    simp only [opA, pureA, hx, hy, binA, hkk, if_true, intBin, hq, if_false]
   ·cases e
  ·cases e
 ·rename_i f args
  cases hf : T.find f (args.map (ev t)) with
  | none => rw [hf] at e; cases e
  | some p =>
   obtain ⟨b, w⟩ := p
   rw [hf] at e; cases e
   simp only [opA, Plain.env, hf]
   exact if_pos hq
 ·split at e
  ·cases e
  ·rename_i hk
   rw [opA_pure (by simpa using hk)]
   cases hp : pureA k t h with
   | none => rw [hp] at e; cases e
   | some w => rw [hp] at e; cases e; rfl
def runJ (T : Plain) (Γ : Env) : Nat → List IOp → Fr → Heap → Hj → Lv → Option (Bool × Fr × Hj)
 | 0, _, _, _, _, _ => none
 | _ + 1, [], t, _, hn, _ => some (true, t, hn)
 | n + 1, o :: r, t, h, hn, lv =>
  let go (hn : Hj) : Option (Bool × Fr × Hj) := match opJ T Γ o.k t h hn with
   | some (q, v, hn) => match runJ T Γ n r (put t o.dst v) h hn lv with
    | some (q2, t2, hn2) => some (q && q2, t2, hn2)
    | none => none
   | none => none
  match o.g with
  | none => go hn
  | some (i, p) => match hn, t.getD i undef with
   | .join m hl hr hk, .bool b =>
    let lj : Lv := fun d => isLive d ((o :: r).drop m) lv
    match runJ T Γ n ((o :: r).take m) (t.set i (.bool true)) h hl lj, runJ T Γ n ((o :: r).take m) (t.set i (.bool false)) h hr lj with
    | some (q1, t1, _), some (q2, t2, _) => match mergeF b lj t1 t2 (((o :: r).take m).filterMap (·.dst)) t with
     | some t3 => match runJ T Γ n ((o :: r).drop m) t3 h hk lv with
      | some (q3, t4, hk') => some ((bif b then q1 else q2) && q3, t4, hk')
      | none => none
     | none => none
    | _, _ => none
   | .con hn, .bool c => if c == p then go hn else runJ T Γ n r (put t o.dst undef) h hn lv
   | .con hn, _ => runJ T Γ n r (put t o.dst undef) h hn lv
   | _, _ => none
def brU (b : Bool) (hn : Hj) (kt kf : Hj → Tr) : Tr := match hn with
 | .sym l r => .br b (kt l) (kf r)
 | .con n => match b with
  | true => kt n
  | false => kf n
 | .yes n => .req b (kt n)
 | .no n => .req (!b) (kf n)
 | _ => .fail
def cl (t : Fr) (o : Operand) : Operand := .const (ev t o)
def opC (Γ : Env) (k : IK) (t : Fr) (h : Heap) : Option (Value × Heap) := match k with
 | .load x n => opA Γ (.load (cl t x) n) [] h
 | .store x v n => opA Γ (.store (cl t x) (cl t v) n) [] h
 | .iadr e a x i => opA Γ (.iadr e a (cl t x) (cl t i)) [] h
 | .idx e l n x i => opA Γ (.idx e l n (cl t x) (cl t i)) [] h
 | .sidx x i => opA Γ (.sidx (cl t x) (cl t i)) [] h
 | .slice e x lo hi mx => opA Γ (.slice e (cl t x) (lo.map (cl t)) (hi.map (cl t)) (mx.map (cl t))) [] h
 | .append e b s x => opA Γ (.append e b (cl t s) (cl t x)) [] h
 | .copy e d s => opA Γ (.copy e (cl t d) (cl t s)) [] h
 | .mkslice e b z l c => opA Γ (.mkslice e b z (cl t l) (cl t c)) [] h
 | .call f args => opA Γ (.call f (args.map (cl t))) [] h
 | .bin op x y => opA Γ (.bin op (cl t x) (cl t y)) [] h
 | .eqv a b x y => opA Γ (.eqv a b (cl t x) (cl t y)) [] h
 | .conv k x => opA Γ (.conv k (cl t x)) [] h
 | .len x => opA Γ (.len (cl t x)) [] h
 | .mx x y => opA Γ (.mx (cl t x) (cl t y)) [] h
 | .mn x y => opA Γ (.mn (cl t x) (cl t y)) [] h
 | .slen x => opA Γ (.slen (cl t x)) [] h
 | .b2s x => opA Γ (.b2s (cl t x)) [] h
 | .strsl x lo hi => opA Γ (.strsl (cl t x) (lo.map (cl t)) (hi.map (cl t))) [] h
 | k => opA Γ k t h
theorem ev_cl (t : Fr) (o : Operand) : ev [] (cl t o) = ev t o := rfl
theorem map_cl (t : Fr) (o : Option Operand) : (o.map (cl t)).map (ev []) = o.map (ev t) := by cases o <;> rfl
theorem opC_eq {Γ : Env} {k : IK} {t : Fr} {h : Heap} : opC Γ k t h = opA Γ k t h := by
 cases k <;> first
  | rfl
  | (simp only [opC, opA, pureA, ev_cl]; done)
  | (simp only [opC, opA, pureA, ev_cl, map_cl]; done)
  | (simp only [opC, opA, List.map_map]; rfl)
def opU0 (T : Plain) (Γ : Env) (k : IK) (t : Fr) (h : Heap) (hn : Hj) (K : Value → Heap → Hj → Tr) : Tr :=
 match k with
 | .pick c a b => match ev t c with
  | .bool c => match hn with
   | .val n => match mergeV c (ev t a) (ev t b) with
    | some v => K v h n
    | none => .fail
   | hn => brU c hn (fun n => K (ev t a) h n) (fun n => K (ev t b) h n)
  | _ => .fail
 | .bin .quo x y => divT .quo (ev t x) (ev t y) fun v => K v h hn
 | .bin .rem x y => divT .rem (ev t x) (ev t y) fun v => K v h hn
 | .call f args => match T.find f (args.map (ev t)) with
  | some (b, v) => .req b (K v h hn)
  | none => match Γ f (args.map (ev t)) h with
   | some (v, h') => K v h' hn
   | none => .fail
 | k => match opA (T.env Γ) k t h with
  | some (v, h') => K v h' hn
  | none => .fail
def opQ (T : Plain) (Γ : Env) (k : IK) (t : Fr) (h : Heap) : Option (Bool × Value × Heap) :=
 match k with
 | .bin .quo x y => match ev t x, ev t y with
  | .int k a, .int k' b => if k = k' then some (!(decide (b = 0)), .int k (k.wrap (a.tdiv b)), h) else none
  | _, _ => none
 | .bin .rem x y => match ev t x, ev t y with
  | .int k a, .int k' b => if k = k' then some (!(decide (b = 0)), .int k (a.tmod b), h) else none
  | _, _ => none
 | .call f args => match T.find f (args.map (ev t)) with
  | some (b, v) => some (b, v, h)
  | none => match Γ f (args.map (ev t)) h with
   | some (v, h') => some (true, v, h')
   | none => none
 | k => (opA (T.env Γ) k t h).map fun p => (true, p.1, p.2)
def runQ (T : Plain) (Γ : Env) : List IOp → Fr → Heap → Option (Bool × Fr × Heap)
 | [], t, h => some (true, t, h)
 | o :: r, t, h => if want t o.g then match opQ T Γ o.k t h with
   | some (q, v, h') => match runQ T Γ r (put t o.dst v) h' with
    | some (q2, t2, h2) => some (q && q2, t2, h2)
    | none => none
   | none => none
  else runQ T Γ r (put t o.dst undef) h
def crossQ (T : Plain) (Γ : Env) (os : List IOp) (t : Fr) (h : Heap) : List (Nat × Nat) → Bool
 | [] => true
 | (i, j) :: r => (match os[i]?, runQ T Γ (os.take i) t h, runQ T Γ (os.take (if i < j then j + 1 else j)) t h with
  | some x, some (q1, ti, hi), some (q2, _, hj) => q1 && (q2 && (if want ti x.g then match opQ T Γ x.k ti hi, opQ T Γ x.k ti hj with
   | some (q3, v, _), some (q4, v', _) => q3 && (q4 && eqV v v')
   | _, _ => false
   else true))
  | _, _, _ => false) && crossQ T Γ os t h r
def splitS : Nat → IL → IL × IL
 | 0, .seq a b => (a, b)
 | n + 1, .seq a b => (.seq a (splitS n b).1, (splitS n b).2)
 | _, x => (.skip, x)
theorem Wp.split {Γ : Env} {lv lv' : Lv} {K : Post2} : ∀ (n : Nat) (x : IL) (t : Fr) (h : Heap), (∀ i, (exL i (splitS n x).2 || lv i) = true → lv' i = true) → Wp Γ lv' (splitS n x).1 t h (thenK (fun t h => Wp Γ lv (splitS n x).2 t h K) K) → Wp Γ lv x t h K
 | 0, x, t, h, hl, w => by
  cases x with
  | seq a b => exact Wp.seq (w.less hl)
  | _ =>
   obtain ⟨m, e, t', h', s, q1, q2, q3⟩ := w
   cases m with
   | zero => cases q1
   | succ m =>
    simp only [splitS, execF] at q1
    cases q1
    exact Wp.ag (q2.mono fun i q => by
     cases r : (exL i _ || lv i) with
     | false => rfl
     | true => have := hl i r; rw [q] at this; cases this) q3
 | n + 1, x, t, h, hl, w => by
  cases x with
  | seq a b =>
   obtain ⟨m, e, t', h', s, q1, q2, q3⟩ := w
   cases m with
   | zero => cases q1
   | succ m =>
    simp only [splitS, execF] at q1
    split at q1
    ·rename_i t2 h2 e2
     have w2 : Wp Γ lv b t2 h2 K := Wp.split n b t2 h2 hl ⟨m, e, t', h', s, q1, q2, q3⟩
     exact Wp.seq ⟨m, .normal, t2, h2, t2, e2, .refl _, w2⟩
    ·rename_i hne
     have hl2 : ∀ i, lv' i = false → lv i = false := fun i q => by
      cases r : lv i with
      | false => rfl
      | true => have := hl i (by simp [r]); rw [q] at this; cases this
     have w2 : Wp Γ lv a t h K := by
      refine ⟨m, e, t', h', s, q1, q2.mono hl2, ?_⟩
      cases e with
      | normal => exact absurd q1 (hne _ _)
      | ret => exact q3
      | exit id => exact q3
     obtain ⟨m2, e2, t3, h3, s3, r1, r2, r3⟩ := w2
     cases e with
     | normal => exact absurd q1 (hne _ _)
     | ret => exact ⟨m + 1, .ret, t', h', s, by simp only [execF, q1], q2.mono hl2, q3⟩
     | exit id => exact ⟨m + 1, .exit id, t', h', s, by simp only [execF, q1], q2.mono hl2, q3⟩
  | _ =>
   obtain ⟨m, e, t', h', s, q1, q2, q3⟩ := w
   cases m with
   | zero => cases q1
   | succ m =>
    simp only [splitS, execF] at q1
    cases q1
    exact Wp.ag (q2.mono fun i q => by
     cases r : (exL i _ || lv i) with
     | false => rfl
     | true => have := hl i r; rw [q] at this; cases this) q3
theorem Wp.split' {Γ : Env} {lv lv' : Lv} {K : Post2} {n : Nat} {x p q : IL} {t : Fr} {h : Heap} (hs : splitS n x = (p, q)) (hl : ∀ i, (exL i q || lv i) = true → lv' i = true) (w : Wp Γ lv' p t h (thenK (fun t h => Wp Γ lv q t h K) K)) : Wp Γ lv x t h K := by
 have e1 : p = (splitS n x).1 := by rw [hs]
 have e2 : q = (splitS n x).2 := by rw [hs]
 subst e1 e2
 exact Wp.split n x t h hl w
def rdRes : Res → Nat
 | .tmp j => j
 | .cell j _ => j
def resLv (rs : List Res) : Lv := fun i => rs.any fun r => rdRes r == i
theorem resA1_ag {t s : Fr} {h : Heap} {r : Res} {lv : Lv} (ha : Ag (fun i => lv i = false) t s) (hr : lv (rdRes r) = true) : resA1 t h r = resA1 s h r := by
 have key : t.getD (rdRes r) undef = s.getD (rdRes r) undef := ha.2 _ fun q => by
  have q' : lv (rdRes r) = false := q
  rw [hr] at q'; cases q'
 cases r with
 | tmp j =>
  have : t.getD j undef = s.getD j undef := key
  simp only [resA1, this]
 | cell j n =>
  have : ev t (.tmp j) = ev s (.tmp j) := key
  simp only [resA1, pureA, this]
theorem resAs_ag {t s : Fr} {h : Heap} {lv : Lv} (ha : Ag (fun i => lv i = false) t s) : ∀ (rs : List Res), (∀ i, resLv rs i = true → lv i = true) → resAs t h rs = resAs s h rs
 | [], _ => rfl
 | r :: l, hr => by
  simp only [resAs]
  rw [resA1_ag ha (r := r) (hr _ (by simp [resLv])), resAs_ag ha l fun i q => hr i (by simp only [resLv, List.any_cons, Bool.or_eq_true]; exact .inr q)]
theorem wp_sim {P : Program} {qt : List Nat} (hm : P.follows .mixedOrders = true) {Γ : Env} (hΓ : EnvOk P Γ) (hq : QuietEnv qt Γ) {f : Nat} {F : FnIL} (hf : stF P qt f = some F) {args : List Value} {h : Heap}
  {Q : Value → Heap → Prop} (e : Wp Γ (resLv F.res) F.body (args ++ List.replicate (F.ntmps - args.length) undef) h fun e s h' => (retT h F.res e s h').holds Q) : Sim P f args h Q := by
 obtain ⟨n, ex, t', h', s, h1, a1, h2⟩ := e
 have hres : resA s h' F.res = resA t' h' F.res := by
  simp only [resA, resAs_ag a1 F.res fun i q => q]
 have key : ∀ (hne : ex = .normal ∨ ex = .ret), (match resA s h' F.res with
   | some v => if letGo h v h' then Tr.ret v (h'.take h.length) else .ret v h'
   | none => .fail).holds Q → Sim P f args h Q := by
  intro hne e
  rw [hres] at e
  split at e
  ·rename_i v hv
   have base : Sim P f args h fun v1 h2 => v1 = v ∧ h2 = h' := fn_sim hf (execF_sim hm hΓ hq n F.body _ h ex t' h' _ h1 ⟨by rcases hne with rfl | rfl <;> simp [Ex.ex], v, hv, rfl, rfl⟩)
   split at e
   ·rename_i hc
    unfold letGo at hc
    simp only [Bool.and_eq_true, decide_eq_true_eq] at hc
    exact base.cut fun v1 h2 ⟨q1, q2⟩ => by subst q1; subst q2; exact ⟨hc.1.1, hc.1.2, hc.2, e⟩
   ·exact base.mono fun v1 h2 ⟨q1, q2⟩ => by subst q1; subst q2; exact e
  ·cases e
 cases ex with
 | exit i => cases h2
 | normal => exact key (.inl rfl) h2
 | ret => exact key (.inr rfl) h2
end Go.Am
namespace Go.Am
set_option linter.all false
variable {P : Program}
def flatC (blk : Blk) : Bool := blk.cells.all (belowC 0)
theorem flat_vc {ι ι' : Map} {v v' : Value} (h : VC ι v v') (hb : belowC 0 v = true) : VC ι' v v' :=
 (h.cut hb).mono (by intro B l e; simp [cutM] at e)
theorem flat_cells {ι ι' : Map} : ∀ {a b : List Value}, F2 (VC ι) a b → a.all (belowC 0) = true → F2 (VC ι') a b
 | _, _, .nil, _ => .nil
 | _, _, .cons h r, hb => by
  simp only [List.all_cons, Bool.and_eq_true] at hb
  exact .cons (flat_vc h hb.1) (flat_cells r hb.2)
theorem V0.under {ι : Map} {n : Nat} (hd : ∀ B l, ι B = some l → B < n) {v v' : Value} (h : V0 ι v v') : below0 n v = true := by
 cases h with
 | ptr h => simpa [below0] using hd _ _ h
 | sl h _ => simpa [below0] using hd _ _ h
 | sl0 h => simpa [below0] using hd _ _ h
 | _ => rfl
theorem V0s.under {ι : Map} {n : Nat} (hd : ∀ B l, ι B = some l → B < n) : ∀ {a b : List Value}, F2 (V0 ι) a b → a.all (below0 n) = true
 | _, _, .nil => rfl
 | _, _, .cons h r => by simp only [List.all_cons, Bool.and_eq_true]; exact ⟨h.under hd, V0s.under hd r⟩
theorem VC.under {ι : Map} {n : Nat} (hd : ∀ B l, ι B = some l → B < n) {v v' : Value} (h : VC ι v v') : belowC n v = true := by
 cases h with
 | v0 h =>
  have := h.under hd
  cases h <;> exact this
 | fn f h1 h2 => simp only [belowC, Bool.and_eq_true]; exact ⟨V0s.under hd h1, V0s.under hd h2⟩
theorem VCs.under {ι : Map} {n : Nat} (hd : ∀ B l, ι B = some l → B < n) : ∀ {a b : List Value}, F2 (VC ι) a b → a.all (belowC n) = true
 | _, _, .nil => rfl
 | _, _, .cons h r => by simp only [List.all_cons, Bool.and_eq_true]; exact ⟨h.under hd, VCs.under hd r⟩
theorem HR.below {ι : Map} {h : Heap} {w : World} (H : HR ι h w) : h.all (belowB h.length) = true := by
 rw [List.all_eq_true]
 intro b hb
 obtain ⟨B, hB⟩ := List.mem_iff_getElem?.1 hb
 cases b with
 | none => rfl
 | some blk =>
  obtain ⟨l, q1, q2, q3, q4, q5, c, e, f, q6, q7, q8, q9⟩ := H.live B blk hB
  exact VCs.under H.dom q9
theorem belowA_up {n : Nat} {v : Value} (h : belowA 0 v = true) : belowA n v = true := by
 cases v with
 | agg a =>
  simp only [belowA, List.all_eq_true] at h ⊢
  exact fun x hx => belowC_of (h x hx)
 | _ => simp only [belowA] at h ⊢; exact belowC_of h
theorem belowV_up {n : Nat} {v : Value} (h : belowV 0 v = true) : belowV n v = true := by
 cases v with
 | tuple a =>
  simp only [belowV, List.all_eq_true] at h ⊢
  exact fun x hx => belowA_up (h x hx)
 | _ => simp only [belowV] at h ⊢; exact belowA_up h
theorem Sim.keep {f : FuncId} {args : List Value} {h : Heap} {R : Value → Prop} (s : Sim P f args h fun v h' => R v ∧ h.length ≤ h'.length ∧ h'.take h.length = h) (hR : ∀ v, R v → belowV 0 v = true) : Sim P f args h fun v h' => R v ∧ h' = h := by
 by_cases hb : h.all (belowB h.length) = true
 ·refine s.cut fun v h' ⟨r, hl, ht⟩ => ⟨hl, ?_, by rw [ht]; exact hb, r, ht⟩
  exact belowV_up (hR v r)
 ·exact ⟨s.1, fun ι w args' hA H => absurd H.below hb⟩
theorem Sim.last {f : FuncId} {args : List Value} {h : Heap} {n c : Nat} {blk : Blk} (s : Sim P f args h fun v h' => (∃ B, v = .slice (some ⟨B, 0, none⟩) n c ∧ h.length ≤ B ∧ h'[B]? = some (some blk)) ∧ h'.take h.length = h)
  (fl : flatC blk = true) (hk : blk.kind ≠ .ro) : Sim P f args h fun v h' => v = .slice (some ⟨h.length, 0, none⟩) n c ∧ h' = h ++ [some blk] := by
 refine ⟨s.1, fun ι w args' hA H => (s.2 ι w args' hA H).mono fun e w' ⟨v, v', h', ι', ⟨⟨Bn, rv, rB, rb⟩, rt⟩, r2, r3, r4, r5⟩ => ?_⟩
 subst rv
 have hlen : h.length ≤ h'.length := by
  have := (List.getElem?_eq_some_iff.1 rb).1
  omega
 have rp : ∀ B, B < h.length → h'[B]? = h[B]? := fun B hB => by
  have : (h'.take h.length)[B]? = h'[B]? := by rw [List.getElem?_take]; simp [hB]
  rw [← this, rt]
 have a0 := r4.cut h.length hlen (by rw [rt]; exact H.below)
 have b0 := r5.cut H
 rw [rt] at a0 b0
 obtain ⟨ι1, hι1⟩ : ∃ ι1, ι1 = cutM ι' h.length := ⟨_, rfl⟩
 rw [← hι1] at a0 b0
 have sub1 : Sub ι1 ι' := by rw [hι1]; intro B l e; unfold cutM at e; split at e; exact e; cases e
 obtain ⟨l, q1, q2, q3, q4, q5, c', e', f', q6, q7, q8, q9⟩ := r4.live _ _ rb
 let ι2 : Map := fun B => if B = h.length then ι' Bn else ι1 B
 have new : ι2 h.length = some l := by simp only [ι2, if_true]; exact q1
 have old : ∀ B, B ≠ h.length → ι2 B = ι1 B := fun B hB => by simp only [ι2, hB, if_false]
 have sub : Sub ι1 ι2 := fun B l e => by
  have := a0.dom B l e
  rw [old B (by omega)]; exact e
 have hin : ∀ B blk0, (h ++ [some blk])[B]? = some (some blk0) → (B < h.length ∧ h[B]? = some (some blk0)) ∨ (B = h.length ∧ blk0 = blk) := fun B blk0 e => by
  rcases Nat.lt_trichotomy B h.length with q | q | q
  ·left; rw [List.getElem?_append_left q] at e; exact ⟨q, e⟩
  ·right; subst q; simp at e; exact ⟨rfl, e.symm⟩
  ·rw [List.getElem?_eq_none (by simp; omega)] at e; cases e
 have far : ∀ B blk2 l2, h[B]? = some (some blk2) → ι1 B = some l2 → l.b ≠ l2.b := fun B blk2 l2 e1 e2 => by
  have hlt : B < h.length := (List.getElem?_eq_some_iff.1 e1).1
  exact r4.apart Bn B blk blk2 l l2 rb (by rw [rp B hlt, e1]) (by omega) hk q1 (sub1 _ _ e2)
 refine ⟨_, v', h ++ [some blk], ι2, ⟨rfl, rfl⟩, r2, ?_, ?_, ?_⟩
 ·cases r3 with
  | va r3 => cases r3 with
   | vc r3 => cases r3 with
    | v0 r3 => cases r3 with
     | sl g1 g2 =>
      rw [q1] at g1; cases g1
      exact .v0 (.sl new g2)
     | sl0 g1 =>
      exact .v0 (.sl0 new)
 ·constructor
  ·intro B l' e
   by_cases hB : B = h.length
   ·simp [hB]
   ·rw [old B hB] at e
    have := a0.dom B l' e
    simp; omega
  ·intro B blk0 e
   rcases hin B blk0 e with ⟨hlt, e⟩ | ⟨rfl, rfl⟩
   ·obtain ⟨l', z1, z2, z3, z4, z5, c3, e3, f3, z6, z7, z8, z9⟩ := a0.live _ _ e
    exact ⟨l', sub _ _ z1, z2, z3, z4, z5, c3, e3, f3, z6, z7, z8, z9.mono fun _ _ k => k.mono sub⟩
   ·exact ⟨l, new, q2, q3, q4, q5, c', e', f', q6, q7, q8, flat_cells q9 fl⟩
  ·intro B1 B2 b1 b2 l1 l2 e1 e2 hne hk1 i1 i2
   rcases hin B1 b1 e1 with ⟨lt1, g1⟩ | ⟨y1, y2⟩ <;> rcases hin B2 b2 e2 with ⟨lt2, g2⟩ | ⟨y3, y4⟩
   ·rw [old B1 (by omega)] at i1
    rw [old B2 (by omega)] at i2
    exact a0.apart _ _ _ _ _ _ g1 g2 hne hk1 i1 i2
   ·rw [old B1 (by omega)] at i1
    rw [y3, new] at i2; cases i2
    exact (far _ _ _ g1 i1).symm
   ·rw [old B2 (by omega)] at i2
    rw [y1, new] at i1; cases i1
    exact far _ _ _ g2 i2
   ·exact absurd (y1.trans y3.symm) hne
 ·refine ⟨fun B l e => sub _ _ (b0.sub _ _ e), r5.size, b0.frame, ?_, r5.os, r5.tape, r5.output, ?_⟩
  ·intro B blk0 l' e hk' i
   rcases hin B blk0 e with ⟨hlt, e⟩ | ⟨rfl, rfl⟩
   ·rw [old B (by omega)] at i
    exact b0.imgs B blk0 l' e hk' i
   ·rw [new] at i; cases i
    exact r5.imgs Bn blk0 l rb hk' q1
  ·intro B blk0 l' e i
   rcases hin B blk0 e with ⟨hlt, e⟩ | ⟨rfl, rfl⟩
   ·rw [old B (by omega)] at i
    exact b0.imgR B blk0 l' e i
   ·rw [new] at i; cases i
    exact r5.imgR Bn blk0 l rb q1
theorem Wp.exact {Γ : Env} {lv : Lv} {x : IL} {t : Fr} {h : Heap} {K : Post2} (w : Wp Γ lv x t h K) : ∃ e s h', K e s h' ∧ Wp Γ lv x t h fun e1 s1 h1 => e1 = e ∧ s1 = s ∧ h1 = h' := by
 obtain ⟨n, e, t', h', s, a, b, k⟩ := w
 exact ⟨e, s, h', k, n, e, t', h', s, a, b, rfl, rfl, rfl⟩
theorem wp_sim' {P : Program} {qt : List Nat} (hm : P.follows .mixedOrders = true) {Γ : Env} (hΓ : EnvOk P Γ) (hq : QuietEnv qt Γ) {f : Nat} {F : FnIL} (hf : stF P qt f = some F) {args : List Value} {h : Heap}
  {Q : Value → Heap → Prop} (e : Wp Γ (resLv F.res) F.body (args ++ List.replicate (F.ntmps - args.length) undef) h fun e s h' => (e = .normal ∨ e = .ret) ∧ ∃ v, resA s h' F.res = some v ∧ Q v h') : Sim P f args h Q := by
 obtain ⟨n, ex, t', h', s, h1, a1, hne, v, hv, hQ⟩ := e
 have hres : resA s h' F.res = resA t' h' F.res := by
  simp only [resA, resAs_ag a1 F.res fun i q => q]
 rw [hres] at hv
 have base : Sim P f args h fun v1 h2 => v1 = v ∧ h2 = h' := fn_sim hf (execF_sim hm hΓ hq n F.body _ h ex t' h' _ h1 ⟨by rcases hne with rfl | rfl <;> simp [Ex.ex], v, hv, rfl, rfl⟩)
 exact base.mono fun v1 h2 ⟨q1, q2⟩ => by subst q1; subst q2; exact hQ
end Go.Am
namespace Go.Am
set_option linter.all false
inductive SV where
 | raw (v : Value)
 | ptr (k o : Nat)
 | sl (k o n c : Nat)
 | agg (l : List SV)
 | tup (l : List SV)
abbrev SFr := List SV
def sund : SV := .raw undef
def den0 (f : Nat → Nat) : SV → Value
 | .raw v => v
 | .ptr k o => .pointer (some ⟨f k, o, none⟩)
 | .sl k o n c => .slice (some ⟨f k, o, none⟩) n c
 | _ => undef
def denA (f : Nat → Nat) : SV → Value
 | .agg l => .agg ⟨l.map (den0 f)⟩
 | v => den0 f v
def denV (f : Nat → Nat) : SV → Value
 | .tup l => .tuple ⟨l.map (denA f)⟩
 | v => denA f v
def bnd0 (n : Nat) : SV → Bool
 | .ptr k _ => decide (k < n)
 | .sl k _ _ _ => decide (k < n)
 | _ => true
def bndA (n : Nat) : SV → Bool
 | .agg l => l.all (bnd0 n)
 | v => bnd0 n v
def bndV (n : Nat) : SV → Bool
 | .tup l => l.all (bndA n)
 | v => bndA n v
theorem map_congr_all {α β : Type} {f g : α → β} {p : α → Bool} {l : List α} (h : ∀ x, p x = true → f x = g x) (hl : l.all p = true) : l.map f = l.map g := by
 rw [List.all_eq_true] at hl
 exact List.map_congr_left fun x hx => h x (hl x hx)
theorem den0_congr {f g : Nat → Nat} {n : Nat} (h : ∀ k, k < n → f k = g k) (v : SV) (hb : bnd0 n v = true) : den0 f v = den0 g v := by
 cases v <;> simp only [bnd0, decide_eq_true_eq] at hb <;> simp only [den0]
 ·rw [h _ hb]
 ·rw [h _ hb]
theorem denA_congr {f g : Nat → Nat} {n : Nat} (h : ∀ k, k < n → f k = g k) (v : SV) (hb : bndA n v = true) : denA f v = denA g v := by
 cases v with
 | agg l => simp only [denA]; rw [map_congr_all (den0_congr h) hb]
 | _ => simp only [denA]; exact den0_congr h _ (by simpa only [bndA] using hb)
theorem denV_congr {f g : Nat → Nat} {n : Nat} (h : ∀ k, k < n → f k = g k) (v : SV) (hb : bndV n v = true) : denV f v = denV g v := by
 cases v with
 | tup l => simp only [denV]; rw [map_congr_all (denA_congr h) hb]
 | _ => simp only [denV]; exact denA_congr h _ (by simpa only [bndV] using hb)
theorem bnd0_up {n m : Nat} (h : n ≤ m) (v : SV) (hb : bnd0 n v = true) : bnd0 m v = true := by
 cases v <;> simp only [bnd0, decide_eq_true_eq] at hb ⊢ <;> omega
theorem all_up {α : Type} {p q : α → Bool} {l : List α} (h : ∀ x, p x = true → q x = true) (hl : l.all p = true) : l.all q = true := by
 rw [List.all_eq_true] at hl ⊢
 exact fun x hx => h x (hl x hx)
theorem bndA_up {n m : Nat} (h : n ≤ m) (v : SV) (hb : bndA n v = true) : bndA m v = true := by
 cases v with
 | agg l => exact all_up (bnd0_up h) hb
 | _ => simp only [bndA] at hb ⊢; exact bnd0_up h _ hb
theorem bndV_up {n m : Nat} (h : n ≤ m) (v : SV) (hb : bndV n v = true) : bndV m v = true := by
 cases v with
 | tup l => exact all_up (bndA_up h) hb
 | _ => simp only [bndV] at hb ⊢; exact bndA_up h _ hb
inductive It where
 | blk (kd : Kind) (cs : List SV)
 | raw (b : Option Blk)
 | seg (S : Heap)
abbrev SH := List It
def It.len : It → Nat
 | .seg S => S.length
 | _ => 1
def It.den (f : Nat → Nat) : It → Heap
 | .blk kd cs => [some ⟨kd, cs.map (den0 f)⟩]
 | .raw b => [b]
 | .seg S => S
def It.bnd (n : Nat) : It → Bool
 | .blk _ cs => cs.all (bnd0 n)
 | _ => true
def ofs : SH → Nat → Nat
 | [], _ => 0
 | _ :: _, 0 => 0
 | i :: r, k + 1 => i.len + ofs r k
def denL (f : Nat → Nat) : SH → Heap
 | [] => []
 | i :: r => i.den f ++ denL f r
def denH (I : SH) : Heap := denL (ofs I) I
def denF (I : SH) (t : SFr) : Fr := t.map (denV (ofs I))
theorem It.den_len (f : Nat → Nat) (i : It) : (i.den f).length = i.len := by cases i <;> rfl
theorem It.den_congr {f g : Nat → Nat} {n : Nat} (h : ∀ k, k < n → f k = g k) (i : It) (hb : i.bnd n = true) : i.den f = i.den g := by
 cases i with
 | blk kd cs => simp only [It.den]; rw [map_congr_all (den0_congr h) hb]
 | _ => rfl
theorem denL_congr {f g : Nat → Nat} {n : Nat} (h : ∀ k, k < n → f k = g k) : ∀ (I : SH), I.all (It.bnd n) = true → denL f I = denL g I
 | [], _ => rfl
 | i :: r, hb => by
  simp only [List.all_cons, Bool.and_eq_true] at hb
  simp only [denL, It.den_congr h i hb.1, denL_congr h r hb.2]
theorem denL_app (f : Nat → Nat) : ∀ (I J : SH), denL f (I ++ J) = denL f I ++ denL f J
 | [], J => rfl
 | i :: r, J => by simp only [List.cons_append, denL, denL_app f r J, List.append_assoc]
theorem denL_len (f : Nat → Nat) : ∀ (I : SH), (denL f I).length = ofs I I.length
 | [] => rfl
 | i :: r => by simp only [denL, List.length_append, It.den_len, denL_len f r, List.length_cons, ofs]
theorem denH_len (I : SH) : (denH I).length = ofs I I.length := denL_len _ I
theorem off_app (J : SH) : ∀ (I : SH) (k : Nat), k ≤ I.length → ofs (I ++ J) k = ofs I k
 | [], 0, _ => by cases J <;> rfl
 | [], k + 1, h => by simp at h
 | i :: r, 0, _ => rfl
 | i :: r, k + 1, h => by simp only [List.cons_append, ofs]; rw [off_app J r k (by simpa using h)]
theorem off_set {x y : It} : ∀ (I : SH) (j : Nat), I[j]? = some x → y.len = x.len → ∀ k, ofs (I.set j y) k = ofs I k
 | [], j, e, _, k => by simp at e
 | i :: r, 0, e, hl, k => by
  simp at e; subst e
  cases k with
  | zero => rfl
  | succ k => simp only [List.set_cons_zero, ofs, hl]
 | i :: r, j + 1, e, hl, k => by
  cases k with
  | zero => rfl
  | succ k => simp only [List.set_cons_succ, ofs]; rw [off_set r j (by simpa using e) hl k]
theorem get_app_off {f : Nat → Nat} {i : It} {b : Option Blk} : ∀ (I : SH) (k : Nat), I[k]? = some i → i.den f = [b] → (denL f I)[ofs I k]? = some b
 | [], k, e, _ => by simp at e
 | j :: r, 0, e, hd => by
  simp at e; subst e
  simp only [denL, ofs, hd]; rfl
 | j :: r, k + 1, e, hd => by
  simp only [denL, ofs]
  rw [List.getElem?_append_right (by rw [It.den_len]; omega), It.den_len, Nat.add_sub_cancel_left]
  exact get_app_off r k (by simpa using e) hd
theorem set_app_off {f : Nat → Nat} {i j : It} {b : Option Blk} : ∀ (I : SH) (k : Nat), I[k]? = some i → i.len = 1 → j.den f = [b] → denL f (I.set k j) = (denL f I).set (ofs I k) b
 | [], k, e, _, _ => by simp at e
 | x :: r, 0, e, hl, hd => by
  simp at e; subst e
  have h1 := It.den_len f x
  rw [hl] at h1
  match hx : x.den f, h1 with
  | [a], _ => simp only [List.set_cons_zero, denL, ofs, hd, hx]; rfl
 | x :: r, k + 1, e, hl, hd => by
  simp only [List.set_cons_succ, denL, ofs]
  rw [List.set_append, if_neg (by rw [It.den_len]; omega), It.den_len, Nat.add_sub_cancel_left, set_app_off r k (by simpa using e) hl hd]
structure Grow (I J : SH) : Prop where
 le : I.length ≤ J.length
 ofs : ∀ k, k ≤ I.length → Am.ofs J k = Am.ofs I k
theorem Grow.refl (I : SH) : Grow I I := ⟨Nat.le_refl _, fun _ _ => rfl⟩
theorem Grow.trans {I J K : SH} (a : Grow I J) (b : Grow J K) : Grow I K := ⟨Nat.le_trans a.le b.le, fun k hk => (b.ofs k (Nat.le_trans hk a.le)).trans (a.ofs k hk)⟩
theorem Grow.app (I J : SH) : Grow I (I ++ J) := ⟨by simp, fun k hk => off_app J I k hk⟩
theorem Grow.set {I : SH} {j : Nat} {x y : It} (e : I[j]? = some x) (hl : y.len = x.len) : Grow I (I.set j y) := ⟨by simp, fun k _ => off_set I j e hl k⟩
structure Good (t : SFr) (I : SH) : Prop where
 t : t.all (bndV I.length) = true
 h : I.all (It.bnd I.length) = true
theorem Grow.denV {I J : SH} (g : Grow I J) (v : SV) (hb : bndV I.length v = true) : denV (Am.ofs J) v = denV (Am.ofs I) v := denV_congr (n := I.length) (fun k hk => g.ofs k (by omega)) v hb
theorem Grow.denF {I J : SH} (g : Grow I J) {t : SFr} (ht : t.all (bndV I.length) = true) : denF J t = denF I t := map_congr_all (fun v => g.denV v) ht
theorem denH_app {I J : SH} (hI : I.all (It.bnd I.length) = true) : denH (I ++ J) = denH I ++ denL (ofs (I ++ J)) J := by
 unfold denH
 rw [denL_app]
 congr 1
 exact denL_congr (n := I.length) (fun k hk => off_app J I k (by omega)) I hI
def evS (t : SFr) : Operand → SV
 | .tmp i => t.getD i sund
 | .const v => .raw v
 | .func f => .raw (.func (.func f) #[] #[])
 | .global _ => sund
theorem ev_denF (I : SH) (t : SFr) (o : Operand) : ev (denF I t) o = denV (ofs I) (evS t o) := by
 cases o with
 | tmp i =>
  simp only [ev, evS, denF, List.getD, List.getElem?_map]
  cases t[i]? <;> rfl
 | _ => rfl
theorem evS_bnd {t : SFr} {n : Nat} (h : t.all (bndV n) = true) (o : Operand) : bndV n (evS t o) = true := by
 cases o with
 | tmp i =>
  simp only [evS, List.getD]
  cases hi : t[i]? with
  | none => rfl
  | some v => exact List.all_eq_true.1 h v (List.mem_of_getElem? hi)
 | _ => rfl
def isRaw : SV → Bool
 | .raw _ => true
 | _ => false
def rawOf : SV → Value
 | .raw v => v
 | _ => undef
def rt (t : SFr) : Fr := t.map rawOf
theorem ev_rt {I : SH} {t : SFr} {o : Operand} (h : isRaw (evS t o) = true) : ev (rt t) o = ev (denF I t) o := by
 rw [ev_denF]
 cases o with
 | tmp i =>
  simp only [ev, evS, rt, List.getD, List.getElem?_map] at h ⊢
  cases hi : t[i]? with
  | none => rfl
  | some v =>
   rw [hi] at h
   cases v <;> first | rfl | cases h
 | _ => rfl
def isC : SV → Bool
 | .agg _ | .tup _ => false
 | _ => true
def isA : SV → Bool
 | .tup _ => false
 | _ => true
theorem isC_den {f : Nat → Nat} {v : SV} (h : isC v = true) : denV f v = den0 f v := by cases v <;> first | rfl | cases h
theorem isA_den {f : Nat → Nat} {v : SV} (h : isA v = true) : denV f v = denA f v := by cases v <;> first | rfl | cases h
def mkAgg (l : List SV) : SV := if l.all isRaw then .raw (.agg ⟨l.map rawOf⟩) else .agg l
theorem mkAgg_den (f : Nat → Nat) (l : List SV) : denV f (mkAgg l) = .agg ⟨l.map (den0 f)⟩ := by
 unfold mkAgg
 split
 ·rename_i h
  have : l.map rawOf = l.map (den0 f) := map_congr_all (p := isRaw) (fun v hv => by cases v <;> first | rfl | cases hv) h
  simp only [denV, denA, den0, this]
 ·rfl
def noTupS : SV → Bool
 | .raw v => noTup v
 | .tup _ => false
 | _ => true
def cellsS : SV → List SV
 | .raw v => v.cells.toList.map .raw
 | .agg l => l
 | .tup _ => []
 | v => [v]
theorem map_raw (f : Nat → Nat) (l : List Value) : (l.map SV.raw).map (den0 f) = l := by
 rw [List.map_map]
 exact List.map_id'' (fun _ => rfl) l
theorem noTup_den {f : Nat → Nat} {v : SV} (h : noTupS v = true) : noTup (denV f v) = true ∧ (denV f v).cells.toList = (cellsS v).map (den0 f) := by
 cases v with
 | raw v => exact ⟨h, (map_raw f _).symm⟩
 | tup l => cases h
 | _ => exact ⟨rfl, rfl⟩
theorem cellsS_bnd {n : Nat} {v : SV} (h : bndV n v = true) : (cellsS v).all (bnd0 n) = true := by
 cases v with
 | raw v =>
  simp only [cellsS, List.all_map]
  exact List.all_eq_true.2 fun x _ => rfl
 | agg l => exact h
 | tup l => rfl
 | ptr k o => simpa [cellsS, bndV, bndA] using h
 | sl k o n c => simpa [cellsS, bndV, bndA] using h
def setL {α : Type} (cs : List α) (o : Nat) (vs : List α) : List α := cs.take o ++ (vs ++ cs.drop (o + vs.length))
theorem setL_map {α β : Type} (f : α → β) (cs : List α) (o : Nat) (vs : List α) : (setL cs o vs).map f = setL (cs.map f) o (vs.map f) := by
 simp [setL, List.map_take, List.map_drop]
theorem setR_eq (cs : List Value) (o : Nat) (vs : List Value) : setR cs o vs = setL cs o vs := rfl
def fillS (cells : List SV) : List (Nat × Nat × SV) → Option (List SV)
 | [] => some cells
 | (o, n, v) :: r => if noTupS v = true ∧ (cellsS v).length = n ∧ o + n ≤ cells.length then fillS (setL cells o (cellsS v)) r else none
def evpsS (t : SFr) (ps : List (Nat × Nat × Operand)) : List (Nat × Nat × SV) := ps.map fun p => (p.1, p.2.1, evS t p.2.2)
theorem fillS_ok {I : SH} {t : SFr} : ∀ (ps : List (Nat × Nat × Operand)) (cells l : List SV), fillS cells (evpsS t ps) = some l → fillA (cells.map (den0 (ofs I))) (evps (denF I t) ps) = some (l.map (den0 (ofs I)))
 | [], cells, l, e => by cases e; rfl
 | (o, n, x) :: r, cells, l, e => by
  simp only [evpsS, List.map_cons, fillS] at e
  split at e
  ·rename_i hc
   obtain ⟨h1, h2, h3⟩ := hc
   obtain ⟨k1, k2⟩ := noTup_den (f := ofs I) h1
   simp only [evps, List.map_cons, fillA, ev_denF, k1, k2, List.length_map, h2, h3, true_and, if_true]
   rw [setR_eq, ← setL_map]
   have := fillS_ok (I := I) r _ l e
   simp only [evps, ev_denF] at this
   exact this
  ·cases e
def rawO (t : SFr) : Option Operand → Option (Option Value)
 | none => some none
 | some o => match evS t o with
  | .raw v => some (some v)
  | _ => none
def specS (k : IK) (t : SFr) (I : SH) : Option SV :=
 match k with
 | .mov x => some (evS t x)
 | .nilck x => match evS t x with
  | .ptr k o => some (.ptr k o)
  | _ => none
 | .load x n => match evS t x with
  | .ptr k o => match I[k]? with
   | some (.blk _ cs) => match n with
    | none => match cs[o]? with
     | some v => if isC v then some v else none
     | none => none
    | some n => if o + n ≤ cs.length then some (mkAgg ((cs.drop o).take n)) else none
   | _ => none
  | _ => none
 | .fadr d x => match evS t x with
  | .ptr k o => some (.ptr k (o + d))
  | _ => none
 | .iadr esz a x i => match evS t x, a, evS t i with
  | .ptr k o, some n, .raw (.int _ i) => if 0 ≤ i ∧ i < n then some (.ptr k (o + i.toNat * esz)) else none
  | .sl k o n _, none, .raw (.int _ i) => if 0 ≤ i ∧ i < n then some (.ptr k (o + i.toNat * esz)) else none
  | _, _, _ => none
 | .fld d n x => match evS t x, n with
  | .agg l, none => match l[d]? with
   | some v => if isC v then some v else none
   | none => none
  | .agg l, some n => if d + n ≤ l.length then some (mkAgg ((l.drop d).take n)) else none
  | _, _ => none
 | .ext i x => match evS t x with
  | .tup l => match l[i]? with
   | some v => if isA v then some v else none
   | none => none
  | _ => none
 | .len x => match evS t x with
  | .sl _ _ n _ => some (.raw (.int .i64 n))
  | _ => none
 | .build z ps => match fillS (z.map .raw) (evpsS t ps) with
  | some l => some (mkAgg l)
  | none => none
 | .eqv neg .ptr x y => match evS t x, evS t y with
  | .ptr _ _, .raw (.pointer none) => some (.raw (.bool (if neg then !false else false)))
  | .raw (.pointer none), .ptr _ _ => some (.raw (.bool (if neg then !false else false)))
  | _, _ => none
 | .eqv neg .slc x y => match evS t x, evS t y with
  | .sl _ _ _ _, .raw (.slice none _ _) => some (.raw (.bool (if neg then !false else false)))
  | .raw (.slice none _ _), .sl _ _ _ _ => some (.raw (.bool (if neg then !false else false)))
  | _, _ => none
 | .slarr esz n x lo hi => match evS t x, rawO t lo, rawO t hi with
  | .ptr k o, some lo, some hi => match hiB n n hi with
   | some e => match loB e lo with
    | some l => some (.sl k (if n = l then o else o + l * esz) (e - l) (n - l))
    | none => none
   | none => none
  | _, _, _ => none
 | .slice esz x lo hi none => match evS t x, rawO t lo, rawO t hi with
  | .sl k o len cap, some lo, some hi => match hiB len cap hi with
   | some e => match loB e lo with
    | some l => match I[k]? with
     | some (.blk .fix _) => some (.sl k (if cap = l then o else o + l * esz) (e - l) (cap - l))
     | some (.blk (.grown g) cs) => if g = esz ∧ 0 < esz then some (.sl k (if cap = l ∧ (o + cap * esz == cs.length) = false then o else o + l * esz) (e - l) (cap - l)) else none
     | _ => none
    | none => none
   | none => none
  | _, _, _ => none
 | _ => none
def pureS (k : IK) (t : SFr) (I : SH) : Option SV :=
 match specS k t I with
 | some v => some v
 | none => if heapFree k && (opnds k).all fun o => isRaw (evS t o) then match pureA k (rt t) [] with
   | some v => some (.raw v)
   | none => none
  else none
theorem rd_item {I : SH} {k : Nat} {kd : Kind} {cs : List SV} (e : I[k]? = some (.blk kd cs)) : rd (denH I) (ofs I k) = some ⟨kd, cs.map (den0 (ofs I))⟩ := by
 have := get_app_off (f := ofs I) I k e rfl
 unfold rd denH
 rw [this]
theorem rawO_ok {I : SH} {t : SFr} {x : Option Operand} {v : Option Value} (e : rawO t x = some v) : x.map (ev (denF I t)) = v := by
 cases x with
 | none => cases e; rfl
 | some o =>
  simp only [rawO] at e
  split at e
  ·rename_i u hu
   cases e
   simp only [Option.map_some, ev_denF, hu]; rfl
  ·cases e
theorem add_off (b o d : Nat) : (Addr.mk b o none).add d = ⟨b, o + d, none⟩ := by
 unfold Addr.add
 split
 ·rename_i h; subst h; rfl
 ·rfl
theorem specS_ok {k : IK} {t : SFr} {I : SH} {v : SV} (e : specS k t I = some v) : effK k = false ∧ pureA k (denF I t) (denH I) = some (denV (ofs I) v) := by
 unfold specS at e
 split at e
 ·cases e; exact ⟨rfl, by simp only [pureA, ev_denF]⟩
 ·rename_i x
  split at e
  ·rename_i k o h
   cases e
   exact ⟨rfl, by simp only [pureA, ev_denF, h]; rfl⟩
  ·cases e
 ·rename_i x n
  refine ⟨rfl, ?_⟩
  split at e
  ·rename_i k o h
   split at e
   ·rename_i kd cs hI
    have hr := rd_item hI
    split at e
    ·split at e
     ·rename_i v' hv
      split at e
      ·rename_i hc
       cases e
       simp only [pureA, ev_denF, h, denV, denA, den0, read1, hr, List.getElem?_map, hv, Option.map_some]
       exact congrArg some (isC_den hc).symm
      ·cases e
     ·cases e
    ·rename_i n
     split at e
     ·rename_i hle
      cases e
      simp only [pureA, ev_denF, h, denV, denA, den0, readN, hr, List.length_map, hle, if_true]
      rw [← List.map_drop, ← List.map_take]
      exact congrArg some (mkAgg_den _ _).symm
     ·cases e
   ·cases e
  ·cases e
 ·rename_i d x
  split at e
  ·rename_i k o h
   cases e
   exact ⟨rfl, by simp only [pureA, ev_denF, h]; rfl⟩
  ·cases e
 ·rename_i esz a x i
  refine ⟨rfl, ?_⟩
  split at e
  ·rename_i k o n ik i hx hi
   split at e
   ·rename_i hc
    cases e
    simp only [pureA, ev_denF, hx, hi, denV, denA, den0, hc, and_self, if_true]
   ·cases e
  ·rename_i k o n c ik i hx hi
   split at e
   ·rename_i hc
    cases e
    simp only [pureA, ev_denF, hx, hi, denV, denA, den0, hc, and_self, if_true]
   ·cases e
  ·cases e
 ·rename_i d n x
  refine ⟨rfl, ?_⟩
  split at e
  ·rename_i l h
   split at e
   ·rename_i v' hv
    split at e
    ·rename_i hc
     cases e
     simp only [pureA, ev_denF, h, denV, denA, List.getElem?_map, hv, Option.map_some]
     exact congrArg some (isC_den hc).symm
    ·cases e
   ·cases e
  ·rename_i l n h
   split at e
   ·rename_i hle
    cases e
    simp only [pureA, ev_denF, h, denV, denA, List.length_map, hle, if_true]
    rw [← List.map_drop, ← List.map_take]
    exact congrArg some (mkAgg_den _ _).symm
   ·cases e
  ·cases e
 ·rename_i i x
  refine ⟨rfl, ?_⟩
  split at e
  ·rename_i l h
   split at e
   ·rename_i v' hv
    split at e
    ·rename_i hc
     cases e
     simp only [pureA, ev_denF, h, denV, List.getElem?_map, hv, Option.map_some]
     exact congrArg some (isA_den hc).symm
    ·cases e
   ·cases e
  ·cases e
 ·rename_i x
  split at e
  ·rename_i k o n c h
   cases e
   exact ⟨rfl, by simp only [pureA, ev_denF, h]; rfl⟩
  ·cases e
 ·rename_i z ps
  refine ⟨rfl, ?_⟩
  split at e
  ·rename_i l hl
   cases e
   have := fillS_ok (I := I) ps _ l hl
   rw [map_raw] at this
   simp only [pureA, this]
   exact congrArg some (mkAgg_den _ _).symm
  ·cases e
 ·rename_i neg x y
  refine ⟨rfl, ?_⟩
  split at e
  ·rename_i k o hx hy
   cases e
   simp only [pureA, ev_denF, hx, hy]; rfl
  ·rename_i k o hx hy
   cases e
   simp only [pureA, ev_denF, hx, hy]; rfl
  ·cases e
 ·rename_i neg x y
  refine ⟨rfl, ?_⟩
  split at e
  ·rename_i k o n c a b hx hy
   cases e
   simp only [pureA, ev_denF, hx, hy]; rfl
  ·rename_i a b k o n c hx hy
   cases e
   simp only [pureA, ev_denF, hx, hy]; rfl
  ·cases e
 ·rename_i esz n x lo hi
  refine ⟨rfl, ?_⟩
  split at e
  ·rename_i k o lo hi hx hlo hhi
   split at e
   ·rename_i e1 he
    split at e
    ·rename_i l hl
     cases e
     simp only [pureA, ev_denF, hx, denV, denA, den0, rawO_ok hlo, rawO_ok hhi, slarrA, he, hl, add_off]
     split <;> rfl
    ·cases e
   ·cases e
  ·cases e
 ·rename_i esz x lo hi
  refine ⟨rfl, ?_⟩
  split at e
  ·rename_i k o len cap lo hi hx hlo hhi
   split at e
   ·rename_i e1 he
    split at e
    ·rename_i l hl
     split at e
     ·rename_i cs hI
      cases e
      have hr := rd_item hI
      simp only [pureA, ev_denF, hx, denV, denA, den0, rawO_ok hlo, rawO_ok hhi, sliceA, he, hl, Option.map_none, isEnd, hr, add_off, and_true]
      split <;> rfl
     ·rename_i g cs hI
      split at e
      ·rename_i hg
       cases e
       have hr := rd_item hI
       simp only [pureA, ev_denF, hx, denV, denA, den0, rawO_ok hlo, rawO_ok hhi, sliceA, he, hl, Option.map_none, isEnd, hr, add_off, hg, and_self, if_true, List.length_map]
       split <;> rfl
      ·cases e
     ·cases e
    ·cases e
   ·cases e
  ·cases e
 ·cases e
theorem pureS_ok {Γ : Env} {k : IK} {t : SFr} {I : SH} {v : SV} (e : pureS k t I = some v) : opA Γ k (denF I t) (denH I) = some (denV (ofs I) v, denH I) := by
 unfold pureS at e
 split at e
 ·rename_i v' h
  cases e
  obtain ⟨h1, h2⟩ := specS_ok h
  rw [opA_pure h1, h2]
 ·split at e
  ·rename_i hc
   simp only [Bool.and_eq_true, List.all_eq_true] at hc
   split at e
   ·rename_i u hu
    cases e
    have hp : effK k = false := by cases k <;> first | rfl | cases hc.1
    have h1 : opA Γ k (rt t) [] = some (u, []) := by rw [opA_pure hp, hu]
    rw [opA_congr fun o ho => ev_rt (I := I) (hc.2 o ho)] at h1
    exact (opA_free hc.1 h1).2
   ·cases e
  ·cases e
def effS (k : IK) (t : SFr) (I : SH) : Option (SV × SH) :=
 match k with
 | .box x => if noTupS (evS t x) then some (.ptr I.length 0, I ++ [.blk .fix (cellsS (evS t x))]) else none
 | .alloc z => some (.ptr I.length 0, I ++ [.blk .fix (z.map .raw)])
 | .mkrow z len ps => match fillS (z.map .raw) (evpsS t ps) with
  | some l => some (.sl I.length 0 len len, I ++ [.blk .fix l])
  | none => none
 | .store x v n => match evS t x with
  | .ptr k o => match I[k]? with
   | some (.blk kd cs) => if kd ≠ .ro ∧ noTupS (evS t v) = true ∧ (cellsS (evS t v)).length = n ∧ o + n ≤ cs.length then some (sund, I.set k (.blk kd (setL cs o (cellsS (evS t v))))) else none
   | _ => none
  | _ => none
 | .append esz eby s x => match evS t s, evS t x with
  | .raw (.slice none len cap), .sl k o n _ => match I[k]? with
   | some (.blk _ cs) => if len = 0 ∧ cap = 0 ∧ n ≠ 0 ∧ 0 < esz ∧ n * eby ≤ 1099511627776 ∧ n ≤ 1099511627776 ∧ o + n * esz ≤ cs.length then
     some (.sl I.length 0 n n, I ++ [.blk (.grown esz) ((cs.drop o).take (n * esz))]) else none
   | _ => none
  | .sl j 0 len cap, .sl k o n _ => match I[j]?, I[k]? with
   | some (.blk (.grown g) old), some (.blk _ cs) => if g = esz ∧ len = cap ∧ n ≠ 0 ∧ 0 < esz ∧ (len + n) * eby ≤ 1099511627776 ∧ len + n ≤ 1099511627776 ∧ o + n * esz ≤ cs.length ∧ old.length = len * esz then
     some (.sl I.length 0 (len + n) (len + n), I.set j (.raw none) ++ [.blk (.grown esz) (old ++ (cs.drop o).take (n * esz))]) else none
   | _, _ => none
  | _, _ => none
 | _ => none
theorem all_take {α : Type} {p : α → Bool} {l : List α} (h : l.all p = true) (n : Nat) : (l.take n).all p = true := by
 rw [List.all_eq_true] at h ⊢
 exact fun x hx => h x (List.mem_of_mem_take hx)
theorem all_drop {α : Type} {p : α → Bool} {l : List α} (h : l.all p = true) (n : Nat) : (l.drop n).all p = true := by
 rw [List.all_eq_true] at h ⊢
 exact fun x hx => h x (List.mem_of_mem_drop hx)
theorem item_bnd {I : SH} {n k : Nat} {kd : Kind} {cs : List SV} (h : I.all (It.bnd n) = true) (e : I[k]? = some (.blk kd cs)) : cs.all (bnd0 n) = true :=
 List.all_eq_true.1 h (.blk kd cs) (List.mem_of_getElem? e)
theorem fillS_bnd {n : Nat} : ∀ (ps : List (Nat × Nat × SV)) (cells l : List SV), fillS cells ps = some l → cells.all (bnd0 n) = true → (∀ p ∈ ps, bndV n p.2.2 = true) → l.all (bnd0 n) = true
 | [], cells, l, e, h, _ => by cases e; exact h
 | (o, m, v) :: r, cells, l, e, h, hp => by
  simp only [fillS] at e
  split at e
  ·refine fillS_bnd r _ l e ?_ fun p hm => hp p (by simp [hm])
   simp only [setL, List.all_append, Bool.and_eq_true]
   exact ⟨all_take h _, cellsS_bnd (hp (o, m, v) (by simp)), all_drop h _⟩
  ·cases e
theorem new_blk {I : SH} {i : It} (hI : I.all (It.bnd I.length) = true) (hi : i.bnd I.length = true) : denH (I ++ [i]) = denH I ++ i.den (ofs I) ∧ ofs (I ++ [i]) I.length = (denH I).length := by
 refine ⟨?_, ?_⟩
 ·rw [denH_app hI]
  simp only [denL, List.append_nil]
  rw [It.den_congr (n := I.length) (fun k hk => off_app [i] I k (by omega)) i hi]
 ·rw [off_app _ _ _ (Nat.le_refl _), denH_len]
theorem raws_bnd (n : Nat) (z : List Value) : (z.map SV.raw).all (bnd0 n) = true := by
 rw [List.all_map]
 exact List.all_eq_true.2 fun _ _ => rfl
theorem effS_ok {Γ : Env} {k : IK} {t : SFr} {I I' : SH} {v : SV} (e : effS k t I = some (v, I')) (G : Good t I) : opA Γ k (denF I t) (denH I) = some (denV (ofs I') v, denH I') ∧ Grow I I' := by
 unfold effS at e
 split at e
 ·rename_i x
  split at e
  ·rename_i hx
   cases e
   obtain ⟨k1, k2⟩ := noTup_den (f := ofs I) hx
   obtain ⟨n1, n2⟩ := new_blk (i := .blk .fix (cellsS (evS t x))) G.h (cellsS_bnd (evS_bnd G.t x))
   refine ⟨?_, .app _ _⟩
   have hp : denV (ofs (I ++ [.blk .fix (cellsS (evS t x))])) (.ptr I.length 0) = .pointer (some ⟨(denH I).length, 0, none⟩) := by simp only [denV, denA, den0, n2]
   rw [hp]
   simp only [opA, ev_denF, k1, if_true, k2, n1]; rfl
  ·cases e
 ·rename_i z
  cases e
  obtain ⟨n1, n2⟩ := new_blk (i := .blk .fix (z.map .raw)) G.h (raws_bnd _ z)
  refine ⟨?_, .app _ _⟩
  simp only [opA, n1, denV, denA, den0, n2, It.den, map_raw]
 ·rename_i z len ps
  split at e
  ·rename_i l hl
   cases e
   have h1 := fillS_ok (I := I) ps _ l hl
   rw [map_raw] at h1
   obtain ⟨n1, n2⟩ := new_blk (i := .blk .fix l) G.h (fillS_bnd _ _ l hl (raws_bnd _ z) fun p hp => by
    simp only [evpsS, List.mem_map] at hp
    obtain ⟨q, _, rfl⟩ := hp
    exact evS_bnd G.t _)
   refine ⟨?_, .app _ _⟩
   simp only [opA, h1, n1, denV, denA, den0, n2, It.den]
  ·cases e
 ·rename_i x u n
  split at e
  ·rename_i k o hx
   split at e
   ·rename_i kd cs hI
    split at e
    ·rename_i hc
     cases e
     obtain ⟨c1, c2, c3, c4⟩ := hc
     obtain ⟨k1, k2⟩ := noTup_den (f := ofs I) c2
     have hr := rd_item hI
     have hg : Grow I (I.set k (.blk kd (setL cs o (cellsS (evS t u))))) := .set hI rfl
     refine ⟨?_, hg⟩
     have hd : denH (I.set k (.blk kd (setL cs o (cellsS (evS t u))))) = (denH I).set (ofs I k) (some ⟨kd, setR (cs.map (den0 (ofs I))) o ((cellsS (evS t u)).map (den0 (ofs I)))⟩) := by
      unfold denH
      rw [show ofs (I.set k (.blk kd (setL cs o (cellsS (evS t u))))) = ofs I from funext fun j => off_set (y := .blk kd (setL cs o (cellsS (evS t u)))) I k hI rfl j]
      rw [set_app_off I k hI rfl (b := some ⟨kd, setR (cs.map (den0 (ofs I))) o ((cellsS (evS t u)).map (den0 (ofs I)))⟩) (by simp only [It.den, setL_map, setR_eq])]
     have hp : ev (denF I t) x = .pointer (some ⟨ofs I k, o, none⟩) := by rw [ev_denF, hx]; rfl
     have hu : ev (denF I t) u = denV (ofs I) (evS t u) := ev_denF I t u
     simp only [opA, hp, hu, k1, k2, List.length_map, c3, and_self, if_true, writeN, hr, c1, if_false, c4, hd]
     rfl
    ·cases e
   ·cases e
  ·cases e
 ·rename_i esz eby s x
  split at e
  ·rename_i len cap k o n c hs hx
   split at e
   ·rename_i kd cs hI
    split at e
    ·rename_i hc
     cases e
     obtain ⟨rfl, rfl, c1, c2, c3, c4, c5⟩ := hc
     have hr := rd_item hI
     obtain ⟨n1, n2⟩ := new_blk (i := .blk (.grown esz) ((cs.drop o).take (n * esz))) G.h (all_take (all_drop (item_bnd G.h hI) _) _)
     refine ⟨?_, .app _ _⟩
     simp only [opA, ev_denF, hs, hx, denV, denA, den0, appA, srcA, readN, hr, List.length_map, c5, if_true, c1, if_false, c2, c3, c4, and_self, n1, n2, It.den, List.map_take, List.map_drop]
    ·cases e
   ·cases e
  ·rename_i j len cap k o n c hs hx
   split at e
   ·rename_i g old kd cs hJ hI
    split at e
    ·rename_i hc
     cases e
     obtain ⟨rfl, rfl, c1, c2, c3, c4, c5, c6⟩ := hc
     have hr := rd_item hI
     have hq := rd_item hJ
     have hset : Grow I (I.set j (.raw none)) := .set hJ rfl
     have hb : (I.set j (.raw none)).all (It.bnd (I.set j (.raw none)).length) = true := by
      rw [List.length_set]
      refine List.all_eq_true.2 fun i hi => ?_
      rcases List.mem_or_eq_of_mem_set hi with q | q
      ·exact List.all_eq_true.1 G.h i q
      ·subst q; rfl
     obtain ⟨n1, n2⟩ := new_blk (i := .blk (.grown g) (old ++ (cs.drop o).take (n * g))) hb (by
      rw [List.length_set]
      simp only [It.bnd, List.all_append, Bool.and_eq_true]
      exact ⟨item_bnd G.h hJ, all_take (all_drop (item_bnd G.h hI) _) _⟩)
     have hoff : ofs (I.set j (.raw none)) = ofs I := funext fun q => off_set (y := .raw none) I j hJ rfl q
     have hd : denH (I.set j (.raw none)) = (denH I).set (ofs I j) none := by
      unfold denH
      rw [hoff, set_app_off I j hJ rfl (b := none) rfl]
     rw [hd, hoff] at n1
     rw [hd, List.length_set, List.length_set] at n2
     refine ⟨?_, hset.trans (.app _ _)⟩
     have hlt : ¬ (len + n ≤ len) := by omega
     simp only [opA, ev_denF, hs, hx, denV, denA, den0, appA, srcA, readN, isEnd, hr, hq, List.length_map, c5, if_true, c1, if_false, hlt, c2, c3, c4, and_self, n1, n2, It.den, Nat.zero_add, c6, Nat.le_refl, beq_self_eq_true,
      List.map_append, List.map_take, List.map_drop, List.drop_zero]
     rw [show (old.map (den0 (ofs I))).take (len * g) = old.map (den0 (ofs I)) from by rw [List.take_of_length_le (by rw [List.length_map, c6]; exact Nat.le_refl _)]]
    ·cases e
   ·cases e
  ·cases e
 ·cases e
end Go.Am
namespace Go.Am
set_option linter.all false
structure Dl where
 rs : List (Nat × It) := []
 app : List It := []
inductive Hs where
 | sym (l r : Hs)
 | con (n : Hs)
 | yes (n : Hs)
 | no (n : Hs)
 | val (n : Hs)
 | join (m : Nat) (l r n : Hs)
 | use (d : Nat) (v : SV) (D : Dl) (n : Hs)
 | pur (d : Nat) (v : Value) (n : Hs)
 | bas (d : Nat) (v : Value) (n : Hs)
 | crs (vals : List (Option (SV × Dl))) (n : Hs)
 | lp (id : Nat) (lv : List Nat) (t : SFr) (D : Dl) (n : Hs)
 | lp2 (id : Nat) (lv : List Nat) (b : Bool) (t : SFr) (D : Dl) (t' : SFr) (D' : Dl) (l r : Hs)
 | nil
inductive STr where
 | ret (e : Ex) (t : SFr) (I : SH)
 | br (b : Bool) (l r : STr)
 | req (b : Bool) (t : STr)
 | claim (p : Prop) (t : STr)
 | fail
abbrev PostS := Ex → SFr → SH → Prop
def STr.holds (Q : PostS) : STr → Prop
 | .ret e t I => Q e t I
 | .br b l r => (b = true → l.holds Q) ∧ (b = false → r.holds Q)
 | .req b t => b = true ∧ t.holds Q
 | .claim p t => p ∧ t.holds Q
 | .fail => False
def brS (b : Bool) (hn : Hs) (kt kf : Hs → STr) : STr := match hn with
 | .sym l r => .br b (kt l) (kf r)
 | .con n => match b with
  | true => kt n
  | false => kf n
 | .yes n => .req b (kt n)
 | .no n => .req (!b) (kf n)
 | _ => .fail
theorem brS_holds {b : Bool} {hn : Hs} {kt kf : Hs → STr} {Q : PostS} (h : (brS b hn kt kf).holds Q) : (b = true ∧ ∃ n, (kt n).holds Q) ∨ (b = false ∧ ∃ n, (kf n).holds Q) := by
 unfold brS at h
 split at h
 ·cases b with
  | true => exact .inl ⟨rfl, _, h.1 rfl⟩
  | false => exact .inr ⟨rfl, _, h.2 rfl⟩
 ·cases b with
  | true => exact .inl ⟨rfl, _, h⟩
  | false => exact .inr ⟨rfl, _, h⟩
 ·exact .inl ⟨h.1, _, h.2⟩
 ·exact .inr ⟨by simpa using h.1, _, h.2⟩
 ·cases h
def sameLen : It → It → Option Prop
 | .seg S, .seg S' => some (S'.length = S.length)
 | .seg _, _ => none
 | _, .seg _ => none
 | _, _ => some True
def Dl.on (I : SH) : List (Nat × It) → Option (SH × List Prop)
 | [] => some (I, [])
 | (j, x) :: r => match I[j]? with
  | some y => match sameLen y x with
   | some p => match Dl.on (I.set j x) r with
    | some (J, ps) => some (J, match x with | .seg _ => p :: ps | _ => ps)
    | none => none
   | none => none
  | none => none
def claims : List Prop → STr → STr
 | [], t => t
 | p :: r, t => .claim p (claims r t)
theorem claims_holds {Q : PostS} {t : STr} : ∀ (ps : List Prop), (claims ps t).holds Q → (∀ p ∈ ps, p) ∧ t.holds Q
 | [], h => ⟨fun p hp => (by cases hp), h⟩
 | p :: r, h => by
  obtain ⟨h1, h2⟩ := h
  obtain ⟨h3, h4⟩ := claims_holds r h2
  refine ⟨fun q hq => ?_, h4⟩
  rcases List.mem_cons.1 hq with e | e
  ·rw [e]; exact h1
  ·exact h3 q e
theorem Dl.on_grow : ∀ (rs : List (Nat × It)) (I J : SH) (ps : List Prop), Dl.on I rs = some (J, ps) → (∀ p ∈ ps, p) → Grow I J
 | [], I, J, ps, e, _ => by cases e; exact .refl I
 | (j, x) :: r, I, J, ps, e, hp => by
  simp only [Dl.on] at e
  split at e
  ·rename_i y hy
   split at e
   ·rename_i p hs
    split at e
    ·rename_i J' ps' hr
     cases e
     have hx : x.len = y.len := by
      cases y <;> cases x <;> first | rfl | (cases hs; done) | skip
      rename_i S S'
      cases hs
      exact hp (S'.length = S.length) (by simp)
     refine (Grow.set hy hx).trans (Dl.on_grow r _ J ps' hr fun p hq => hp p ?_)
     split <;> simp [hq]
    ·cases e
   ·cases e
  ·cases e
def Dl.go (I : SH) (D : Dl) : Option (SH × List Prop) := match Dl.on I D.rs with
 | some (J, ps) => if (J ++ D.app).all (It.bnd (J ++ D.app).length) then some (J ++ D.app, ps) else none
 | none => none
theorem Dl.go_ok {I J : SH} {D : Dl} {ps : List Prop} (e : Dl.go I D = some (J, ps)) (hp : ∀ p ∈ ps, p) : Grow I J ∧ J.all (It.bnd J.length) = true := by
 unfold Dl.go at e
 split at e
 ·rename_i J0 ps0 h
  split at e
  ·rename_i hb
   cases e
   exact ⟨(Dl.on_grow _ _ _ _ h hp).trans (.app _ _), hb⟩
  ·cases e
 ·cases e
def eqS0 : SV → SV → Bool
 | .ptr a b, .ptr c d => decide (a = c) && decide (b = d)
 | .sl a b c d, .sl x y z w => decide (a = x) && decide (b = y) && decide (c = z) && decide (d = w)
 | _, _ => false
theorem eqS0_eq {a b : SV} (e : eqS0 a b = true) : a = b := by
 unfold eqS0 at e
 split at e <;> simp_all
def mergeS (b : Bool) (u v : SV) : Option SV := match u, v with
 | .raw x, .raw y => match mergeV b x y with
  | some w => some (.raw w)
  | none => none
 | u, v => if eqS0 u v then some u else none
theorem mergeS_eq {b : Bool} {u v w : SV} (f : Nat → Nat) (e : mergeS b u v = some w) : denV f w = if b then denV f u else denV f v := by
 unfold mergeS at e
 split at e
 ·split at e
  ·rename_i x hm
   cases e
   have := mergeV_eq hm
   simp only [denV, denA, den0, this]
  ·cases e
 ·split at e
  ·rename_i h
   cases e
   rw [eqS0_eq h]
   split <;> rfl
  ·cases e
theorem mergeS_bnd {b : Bool} {u v w : SV} {n : Nat} (e : mergeS b u v = some w) (hu : bndV n u = true) : bndV n w = true := by
 unfold mergeS at e
 split at e
 ·split at e
  ·cases e; rfl
  ·cases e
 ·split at e
  ·cases e; exact hu
  ·cases e
def mergeFS (b : Bool) (lv : Lv) (t1 t2 : SFr) : List Nat → SFr → Option SFr
 | [], t => some t
 | d :: r, t => if lv d then match mergeS b (t1.getD d sund) (t2.getD d sund) with
   | some v => mergeFS b lv t1 t2 r (t.set d v)
   | none => none
  else mergeFS b lv t1 t2 r (t.set d sund)
def putS (t : SFr) : Option Nat → SV → SFr
 | some d, v => t.set d v
 | none, _ => t
theorem putS_den (I : SH) (t : SFr) (d : Option Nat) (v : SV) : denF I (putS t d v) = put (denF I t) d (denV (ofs I) v) := by
 cases d with
 | none => rfl
 | some d => simp only [putS, put, denF, List.map_set]
theorem putS_bnd {n : Nat} {t : SFr} {d : Option Nat} {v : SV} (ht : t.all (bndV n) = true) (hv : bndV n v = true) : (putS t d v).all (bndV n) = true := by
 cases d with
 | none => exact ht
 | some d =>
  refine List.all_eq_true.2 fun i hi => ?_
  rcases List.mem_or_eq_of_mem_set hi with q | q
  ·exact List.all_eq_true.1 ht i q
  ·subst q; exact hv
theorem getD_den (I : SH) (t : SFr) (i : Nat) : (denF I t).getD i undef = denV (ofs I) (t.getD i sund) := ev_denF I t (.tmp i)
theorem getD_bnd {n : Nat} {t : SFr} (ht : t.all (bndV n) = true) (i : Nat) : bndV n (t.getD i sund) = true := evS_bnd ht (.tmp i)
theorem mergeFS_ok {b : Bool} {lv : Lv} {t1 t2 : SFr} {I : SH} : ∀ (ds : List Nat) (t t3 : SFr), mergeFS b lv t1 t2 ds t = some t3 → t1.length = t.length → t2.length = t.length → t.all (bndV I.length) = true → t1.all (bndV I.length) = true →
  (t3.length = t.length ∧ t3.all (bndV I.length) = true) ∧ ∀ i, lv i = true → (i ∈ ds → denV (ofs I) (t3.getD i sund) = denV (ofs I) ((if b then t1 else t2).getD i sund)) ∧ (i ∉ ds → t3.getD i sund = t.getD i sund)
 | [], t, t3, e, _, _, ht, _ => by cases e; exact ⟨⟨rfl, ht⟩, fun i _ => ⟨fun h => (by cases h), fun _ => rfl⟩⟩
 | d :: r, t, t3, e, l1, l2, ht, h1 => by
  have gs : ∀ (v : SV) i, (t.set d v).getD i sund = if d = i ∧ d < t.length then v else t.getD i sund := fun v i => by
   simp only [List.getD, List.getElem?_set]
   by_cases h : d = i
   ·subst h
    by_cases h1 : d < t.length
    ·simp [h1]
    ·simp [h1]
   ·simp [h]
  simp only [mergeFS] at e
  split at e
  ·rename_i hl
   split at e
   ·rename_i v hv
    obtain ⟨a, c⟩ := mergeFS_ok r _ t3 e (by simpa using l1) (by simpa using l2) (putS_bnd (d := some d) ht (mergeS_bnd hv (getD_bnd h1 d))) h1
    refine ⟨by simpa using a, fun i hi => ⟨fun hm => ?_, fun hm => ?_⟩⟩
    ·by_cases hr : i ∈ r
     ·exact (c i hi).1 hr
     ·rw [(c i hi).2 hr, gs]
      have hdi : d = i := by simpa [hr, eq_comm] using hm
      subst hdi
      have hv' := mergeS_eq (ofs I) hv
      by_cases hlt : d < t.length
      ·simp only [hlt, and_self, if_true, hv']
       cases b <;> rfl
      ·simp only [hlt, and_false, if_false]
       have e0 : ∀ t : SFr, t.length ≤ d → t.getD d sund = sund := fun t h => by simp [List.getD, List.getElem?_eq_none h]
       rw [e0 t (by omega)]
       cases b
       ·exact congrArg _ (e0 t2 (by omega)).symm
       ·exact congrArg _ (e0 t1 (by omega)).symm
    ·have h1 : ¬ i = d := fun q => hm (by simp [q])
     have h2 : i ∉ r := fun q => hm (by simp [q])
     rw [(c i hi).2 h2, gs]
     simp [Ne.symm h1]
   ·cases e
  ·rename_i hl
   obtain ⟨a, c⟩ := mergeFS_ok r _ t3 e (by simpa using l1) (by simpa using l2) (putS_bnd (d := some d) ht rfl) h1
   refine ⟨by simpa using a, fun i hi => ⟨fun hm => ?_, fun hm => ?_⟩⟩
   ·have h1 : ¬ i = d := fun q => hl (by rw [← q]; exact hi)
    exact (c i hi).1 (by simpa [h1] using hm)
   ·have h1 : ¬ i = d := fun q => hm (by simp [q])
    have h2 : i ∉ r := fun q => hm (by simp [q])
    rw [(c i hi).2 h2, gs]
    simp [Ne.symm h1]
def opJS (T : Plain) (k : IK) (t : SFr) (I : SH) (hn : Hs) : Option (Bool × SV × Hs) :=
 match k with
 | .pick c a b => match evS t c with
  | .raw (.bool c) => match hn with
   | .val n => match mergeS c (evS t a) (evS t b) with
    | some v => some (true, v, n)
    | none => none
   | .con n => match c with
    | true => some (true, evS t a, n)
    | false => some (true, evS t b, n)
   | _ => none
  | _ => none
 | .bin .quo x y => match evS t x, evS t y with
  | .raw (.int k a), .raw (.int k' b) => if k = k' then some (!(decide (b = 0)), .raw (.int k (k.wrap (a.tdiv b))), hn) else none
  | _, _ => none
 | .bin .rem x y => match evS t x, evS t y with
  | .raw (.int k a), .raw (.int k' b) => if k = k' then some (!(decide (b = 0)), .raw (.int k (a.tmod b)), hn) else none
  | _, _ => none
 | .call f args => if args.all fun o => isRaw (evS t o) then match T.find f (args.map (ev (rt t))) with
   | some (b, v) => some (b, .raw v, hn)
   | none => none
  else none
 | k => match pureS k t I with
  | some v => some (true, v, hn)
  | none => none
theorem div_ok {Γ : Env} {op : BinOp} {x y : Operand} {t : SFr} {I : SH} {k k' : IntKind} {a b : Int} (hx : evS t x = .raw (.int k a)) (hy : evS t y = .raw (.int k' b)) (hk : k = k') (hb : ¬ b = 0) :
  (opA Γ (.bin .quo x y) (denF I t) (denH I) = some (.int k (k.wrap (a.tdiv b)), denH I)) ∧ (opA Γ (.bin .rem x y) (denF I t) (denH I) = some (.int k (a.tmod b), denH I)) := by
 have h1 : ev (denF I t) x = .int k a := by rw [ev_denF, hx]; rfl
 have h2 : ev (denF I t) y = .int k' b := by rw [ev_denF, hy]; rfl
 constructor <;> simp only [opA, pureA, h1, h2, binA, hk, if_true, intBin, hb, if_false]
theorem call_ok {T : Plain} {Γ : Env} {f : Nat} {args : List Operand} {t : SFr} {I : SH} {h : Heap} {v : Value} (ha : (args.all fun o => isRaw (evS t o)) = true) (e : T.find f (args.map (ev (rt t))) = some (true, v)) :
  opA (T.env Γ) (.call f args) (denF I t) h = some (v, h) := by
 have : args.map (ev (denF I t)) = args.map (ev (rt t)) := List.map_congr_left fun o ho => (ev_rt (List.all_eq_true.1 ha o ho)).symm
 simp only [opA, Plain.env, this, e, if_true]
theorem opJS_ok {T : Plain} {Γ : Env} {k : IK} {t : SFr} {I : SH} {hn : Hs} {q : Bool} {v : SV} {n : Hs} (e : opJS T k t I hn = some (q, v, n)) (hq : q = true) : opA (T.env Γ) k (denF I t) (denH I) = some (denV (ofs I) v, denH I) := by
 unfold opJS at e
 split at e
 ·rename_i c a b
  split at e
  ·rename_i c' hc
   have hc' : ev (denF I t) c = .bool c' := by rw [ev_denF, hc]; rfl
   split at e
   ·split at e
    ·rename_i w hm
     cases e
     simp only [opA, pureA, hc', ev_denF, mergeS_eq (ofs I) hm]
    ·cases e
   ·split at e
    ·cases e; simp only [opA, pureA, hc', ev_denF]; rfl
    ·cases e; simp only [opA, pureA, hc', ev_denF]; rfl
   ·cases e
  ·cases e
 ·split at e
  ·rename_i hx hy
   split at e
   ·rename_i hkk
    cases e
    simp only [Bool.not_eq_true', decide_eq_false_iff_not] at hq
    exact (div_ok (op := .quo) hx hy hkk hq).1
   ·cases e
  ·cases e
 ·split at e
  ·rename_i hx hy
   split at e
   ·rename_i hkk
    cases e
    simp only [Bool.not_eq_true', decide_eq_false_iff_not] at hq
    exact (div_ok (op := .quo) hx hy hkk hq).2
   ·cases e
  ·cases e
 ·split at e
  ·rename_i ha
   split at e
   ·rename_i b w hf
    cases e
    subst hq
    exact call_ok ha hf
   ·cases e
  ·cases e
 ·split at e
  ·rename_i w hw
   cases e
   exact pureS_ok hw
  ·cases e
def runJS (T : Plain) : Nat → List IOp → SFr → SH → Hs → Lv → Option (Bool × SFr × Hs)
 | 0, _, _, _, _, _ => none
 | _ + 1, [], t, _, hn, _ => some (true, t, hn)
 | n + 1, o :: r, t, I, hn, lv =>
  let go (hn : Hs) : Option (Bool × SFr × Hs) := match opJS T o.k t I hn with
   | some (q, v, hn) => if bndV I.length v then match runJS T n r (putS t o.dst v) I hn lv with
     | some (q2, t2, hn2) => some (q && q2, t2, hn2)
     | none => none
    else none
   | none => none
  match o.g with
  | none => go hn
  | some (i, p) => match hn, t.getD i sund with
   | .join m hl hr hk, .raw (.bool b) =>
    let lj : Lv := fun d => isLive d ((o :: r).drop m) lv
    match runJS T n ((o :: r).take m) (t.set i (.raw (.bool true))) I hl lj, runJS T n ((o :: r).take m) (t.set i (.raw (.bool false))) I hr lj with
    | some (q1, t1, _), some (q2, t2, _) => match mergeFS b lj t1 t2 (((o :: r).take m).filterMap (·.dst)) t with
     | some t3 => match runJS T n ((o :: r).drop m) t3 I hk lv with
      | some (q3, t4, hk') => some ((bif b then q1 else q2) && q3, t4, hk')
      | none => none
     | none => none
    | _, _ => none
   | .con hn, .raw (.bool c) => if c == p then go hn else runJS T n r (putS t o.dst sund) I hn lv
   | .con hn, .raw (.tuple ⟨[]⟩) => runJS T n r (putS t o.dst sund) I hn lv
   | _, _ => none
theorem setS_same {I : SH} {t : SFr} {i : Nat} {b : Bool} (h : t.getD i sund = .raw (.bool b)) : denF I (t.set i (.raw (.bool b))) = denF I t := by
 have h1 : (denF I t).getD i undef = .bool b := by rw [getD_den, h]; rfl
 have := putS_den I t (some i) (.raw (.bool b))
 simp only [putS, put] at this
 rw [this]
 exact set_same h1 (by intro q; cases q)
theorem join_agS {Γ : Env} {a : List IOp} {b : Bool} {lj : Lv} {t t1 t2 t3 : SFr} {I : SH} {u : Fr} {h h1 : Heap} (hu : runR Γ a (denF I t) h = some (u, h1)) (l1 : t1.length = t.length) (l2 : t2.length = t.length) (ht : t.all (bndV I.length) = true) (h1 : t1.all (bndV I.length) = true)
  (hm : mergeFS b lj t1 t2 (a.filterMap (·.dst)) t = some t3) (ha : Ag (fun i => lj i = false) u (denF I (if b then t1 else t2))) : Ag (fun i => lj i = false) u (denF I t3) ∧ t3.length = t.length ∧ t3.all (bndV I.length) = true := by
 obtain ⟨ul, uf⟩ := runR_len a _ h u _ hu
 obtain ⟨⟨m1, m3⟩, m2⟩ := mergeFS_ok (I := I) _ _ _ hm l1 l2 ht h1
 refine ⟨⟨by rw [ul]; simp [denF, m1], fun i hi => ?_⟩, m1, m3⟩
 have hi' : lj i = true := by cases q : lj i with
  | true => rfl
  | false => exact absurd q hi
 by_cases hd : i ∈ a.filterMap (·.dst)
 ·rw [getD_den, (m2 i hi').1 hd, ← getD_den]; exact ha.2 i hi
 ·rw [getD_den, (m2 i hi').2 hd, ← getD_den, uf i hd]
theorem putS_len {t : SFr} {d : Option Nat} {v : SV} : (putS t d v).length = t.length := by cases d <;> simp [putS]
theorem runJS_ok {T : Plain} {Γ : Env} : ∀ (n : Nat) (ops : List IOp) (t : SFr) (I : SH) (hn : Hs) (lv : Lv) (q : Bool) (t' : SFr) (hn' : Hs), runJS T n ops t I hn lv = some (q, t', hn') → t.all (bndV I.length) = true →
  (t'.length = t.length ∧ t'.all (bndV I.length) = true) ∧ (q = true → ∃ t1, runR (T.env Γ) ops (denF I t) (denH I) = some (t1, denH I) ∧ Ag (fun i => lv i = false) t1 (denF I t'))
 | 0, _, _, _, _, _, _, _, _, e, _ => by cases e
 | n + 1, [], t, I, hn, lv, q, t', hn', e, ht => by cases e; exact ⟨⟨rfl, ht⟩, fun _ => ⟨_, rfl, .refl _⟩⟩
 | n + 1, o :: r, t, I, hn, lv, q, t', hn', e, ht => by
  have go : ∀ hn, want (denF I t) o.g = true → (match opJS T o.k t I hn with
   | some (q, v, hn) => if bndV I.length v then match runJS T n r (putS t o.dst v) I hn lv with
     | some (q2, t2, hn2) => some (q && q2, t2, hn2)
     | none => none
    else none
   | none => none) = some (q, t', hn') → (t'.length = t.length ∧ t'.all (bndV I.length) = true) ∧ (q = true → ∃ t1, runR (T.env Γ) (o :: r) (denF I t) (denH I) = some (t1, denH I) ∧ Ag (fun i => lv i = false) t1 (denF I t')) := by
   intro hn hw e
   split at e
   ·rename_i q1 v n1 ho
    split at e
    ·rename_i hb
     split at e
     ·rename_i q2 t2 n2 hr
      cases e
      obtain ⟨l, k⟩ := runJS_ok (Γ := Γ) n r _ I _ lv _ _ _ hr (putS_bnd ht hb)
      refine ⟨⟨l.1.trans putS_len, l.2⟩, fun hq => ?_⟩
      simp only [Bool.and_eq_true] at hq
      obtain ⟨t1, e1, a1⟩ := k hq.2
      rw [putS_den] at e1
      exact ⟨t1, by simp only [runR, hw, if_true, opJS_ok ho hq.1, e1], a1⟩
     ·cases e
    ·cases e
   ·cases e
  have skip : want (denF I t) o.g = false → ∀ hn, runJS T n r (putS t o.dst sund) I hn lv = some (q, t', hn') → (t'.length = t.length ∧ t'.all (bndV I.length) = true) ∧ (q = true → ∃ t1, runR (T.env Γ) (o :: r) (denF I t) (denH I) = some (t1, denH I) ∧ Ag (fun i => lv i = false) t1 (denF I t')) := by
   intro hw hn e
   obtain ⟨l, k⟩ := runJS_ok (Γ := Γ) n r _ I _ lv _ _ _ e (putS_bnd ht rfl)
   refine ⟨⟨l.1.trans putS_len, l.2⟩, fun hq => ?_⟩
   obtain ⟨t1, e1, a1⟩ := k hq
   rw [putS_den] at e1
   exact ⟨t1, by simp only [runR, hw, Bool.false_eq_true, if_false]; exact e1, a1⟩
  unfold runJS at e
  dsimp only at e
  split at e
  ·rename_i hg
   exact go hn (by simp [want, hg]) e
  ·rename_i i p hg
   split at e
   ·rename_i m hl hr hk b hb
    split at e
    ·rename_i q1 t1 n1 q2 t2 n2 e1 e2
     split at e
     ·rename_i t3 hm
      split at e
      ·rename_i q3 t4 hk' e3
       cases e
       obtain ⟨⟨l1, b1⟩, k1⟩ := runJS_ok (Γ := Γ) n _ _ I _ _ _ _ _ e1 (putS_bnd (d := some i) ht rfl)
       obtain ⟨⟨l2, b2⟩, k2⟩ := runJS_ok (Γ := Γ) n _ _ I _ _ _ _ _ e2 (putS_bnd (d := some i) ht rfl)
       rw [List.length_set] at l1 l2
       obtain ⟨⟨m1, m3⟩, _⟩ := mergeFS_ok (I := I) _ _ _ hm l1 l2 ht b1
       obtain ⟨l3, k3⟩ := runJS_ok (Γ := Γ) n _ _ I _ _ _ _ _ e3 m3
       refine ⟨⟨l3.1.trans m1, l3.2⟩, fun hq => ?_⟩
       simp only [Bool.and_eq_true] at hq
       have hs := setS_same (I := I) hb
       obtain ⟨u, eu, au⟩ : ∃ u, runR (T.env Γ) ((o :: r).take m) (denF I t) (denH I) = some (u, denH I) ∧ Ag (fun d => isLive d ((o :: r).drop m) lv = false) u (denF I (if b then t1 else t2)) := by
        cases b with
        | true => rw [hs] at k1; exact k1 (by simpa using hq.1)
        | false => rw [hs] at k2; exact k2 (by simpa using hq.1)
       have a3 := (join_agS eu l1 l2 ht b1 hm au).1
       obtain ⟨t5, e5, a5⟩ := k3 hq.2
       obtain ⟨t6, e6, a6⟩ := runR_ins _ _ _ u _ _ _ a3.symm (fun i hi => hi) e5
       refine ⟨t6, ?_, a6.symm.trans a5⟩
       have := runR_app ((o :: r).take m) ((o :: r).drop m) _ _ u _ eu
       rw [List.take_append_drop] at this
       rw [this, e6]
      ·cases e
     ·cases e
    ·cases e
   ·rename_i hn c hb
    have hgd : (denF I t).getD i undef = .bool c := by rw [getD_den, hb]; rfl
    split at e
    ·rename_i hc
     exact go hn (by simp only [want, hg, hgd, hc]) e
    ·rename_i hc
     exact skip (by simp only [want, hg, hgd]; simpa using hc) hn e
   ·rename_i hn hb
    have hgd : (denF I t).getD i undef = .tuple ⟨[]⟩ := by rw [getD_den, hb]; rfl
    refine skip ?_ hn e
    simp only [want, hg, hgd]
   ·cases e
end Go.Am
namespace Go.Am
set_option linter.all false
abbrev CallS := Nat → SFr → SH → Hs → (SV → SH → Hs → STr) → STr
def noCall : CallS := fun _ _ _ _ _ => .fail
def opUS0 (T : Plain) (C : CallS) (k : IK) (t : SFr) (I : SH) (hn : Hs) (K : SV → SH → Hs → STr) : STr :=
 match k with
 | .pick c a b => match evS t c with
  | .raw (.bool c) => match hn with
   | .val n => match mergeS c (evS t a) (evS t b) with
    | some v => if bndV I.length v then K v I n else .fail
    | none => .fail
   | hn => brS c hn (fun n => if bndV I.length (evS t a) then K (evS t a) I n else .fail) (fun n => if bndV I.length (evS t b) then K (evS t b) I n else .fail)
  | _ => .fail
 | .bin .quo x y => match evS t x, evS t y with
  | .raw (.int k a), .raw (.int k' b) => if k = k' then .req (!(decide (b = 0))) (K (.raw (.int k (k.wrap (a.tdiv b)))) I hn) else .fail
  | _, _ => .fail
 | .bin .rem x y => match evS t x, evS t y with
  | .raw (.int k a), .raw (.int k' b) => if k = k' then .req (!(decide (b = 0))) (K (.raw (.int k (a.tmod b))) I hn) else .fail
  | _, _ => .fail
 | .call f args => match (if args.all fun o => isRaw (evS t o) then T.find f (args.map (ev (rt t))) else none) with
  | some (b, v) => .req b (K (.raw v) I hn)
  | none => C f (args.map (evS t)) I hn K
 | .callv x args => match evS t x with
  | .raw (.func (.func f) a b) => C f (a.toList.map .raw ++ (args.map (evS t) ++ b.toList.map .raw)) I hn K
  | _ => .fail
 | k => match pureS k t I with
  | some v => if bndV I.length v then K v I hn else .fail
  | none => match effS k t I with
   | some (v, J) => if bndV J.length v && J.all (It.bnd J.length) then K v J hn else .fail
   | none => .fail
structure OpS (Γ : Env) (k : IK) (t : SFr) (I : SH) (v : SV) (J : SH) : Prop where
 op : opA Γ k (denF I t) (denH I) = some (denV (ofs J) v, denH J)
 grow : Grow I J
 v : bndV J.length v = true
 h : J.all (It.bnd J.length) = true
def CallOk (Γ : Env) (C : CallS) : Prop := ∀ f (args : SFr) (I : SH) (hn : Hs) (K : SV → SH → Hs → STr) (Q : PostS), Good args I → (C f args I hn K).holds Q →
 ∃ v J n, Γ f (denF I args) (denH I) = some (denV (ofs J) v, denH J) ∧ Grow I J ∧ bndV J.length v = true ∧ J.all (It.bnd J.length) = true ∧ (K v J n).holds Q
theorem noCall_ok (Γ : Env) : CallOk Γ noCall := fun _ _ _ _ _ _ _ e => by cases e
theorem map_evS (I : SH) (t : SFr) (l : List Operand) : l.map (ev (denF I t)) = denF I (l.map (evS t)) := by
 simp only [denF, List.map_map]
 exact List.map_congr_left fun o _ => ev_denF I t o
theorem raws_den (I : SH) (l : List Value) : denF I (l.map .raw) = l := by
 simp only [denF, List.map_map]
 exact List.map_id'' (fun _ => rfl) l
theorem raws_bndV (n : Nat) (z : List Value) : (z.map SV.raw).all (bndV n) = true := by
 rw [List.all_map]
 exact List.all_eq_true.2 fun _ _ => rfl
theorem args_bnd {t : SFr} {n : Nat} (h : t.all (bndV n) = true) (l : List Operand) : (l.map (evS t)).all (bndV n) = true := by
 rw [List.all_map]
 exact List.all_eq_true.2 fun o _ => evS_bnd h o
theorem opUS0_holds {T : Plain} {Γ : Env} {C : CallS} (hC : CallOk (T.env Γ) C) {k : IK} {t : SFr} {I : SH} {hn : Hs} {K : SV → SH → Hs → STr} {Q : PostS} (G : Good t I) (e : (opUS0 T C k t I hn K).holds Q) :
  ∃ v J n, OpS (T.env Γ) k t I v J ∧ (K v J n).holds Q := by
 unfold opUS0 at e
 split at e
 ·rename_i c a b
  split at e
  ·rename_i c' hc
   have hc' : ev (denF I t) c = .bool c' := by rw [ev_denF, hc]; rfl
   split at e
   ·rename_i n
    split at e
    ·rename_i v hm
     split at e
     ·rename_i hb
      exact ⟨v, I, n, ⟨by simp only [opA, pureA, hc', ev_denF, mergeS_eq (ofs I) hm], .refl I, hb, G.h⟩, e⟩
     ·cases e
    ·cases e
   ·rcases brS_holds e with ⟨hb, n, hk⟩ | ⟨hb, n, hk⟩
    ·subst hb
     split at hk
     ·rename_i hb; exact ⟨_, I, n, ⟨by simp only [opA, pureA, hc', ev_denF]; rfl, .refl I, hb, G.h⟩, hk⟩
     ·cases hk
    ·subst hb
     split at hk
     ·rename_i hb; exact ⟨_, I, n, ⟨by simp only [opA, pureA, hc', ev_denF]; rfl, .refl I, hb, G.h⟩, hk⟩
     ·cases hk
  ·cases e
 ·split at e
  ·rename_i hx hy
   split at e
   ·rename_i hkk
    obtain ⟨h1, h2⟩ := e
    exact ⟨_, I, _, ⟨(div_ok (op := .quo) hx hy hkk (by simpa using h1)).1, .refl I, rfl, G.h⟩, h2⟩
   ·cases e
  ·cases e
 ·split at e
  ·rename_i hx hy
   split at e
   ·rename_i hkk
    obtain ⟨h1, h2⟩ := e
    exact ⟨_, I, _, ⟨(div_ok (op := .quo) hx hy hkk (by simpa using h1)).2, .refl I, rfl, G.h⟩, h2⟩
   ·cases e
  ·cases e
 ·rename_i f args
  split at e
  ·rename_i b v hf
   split at hf
   ·rename_i ha
    obtain ⟨h1, h2⟩ := e
    subst h1
    exact ⟨.raw v, I, _, ⟨call_ok ha hf, .refl I, rfl, G.h⟩, h2⟩
   ·cases hf
  ·obtain ⟨v, J, n, c1, c2, c3, c4, c5⟩ := hC f _ I hn K Q ⟨args_bnd G.t args, G.h⟩ e
   exact ⟨v, J, n, ⟨by simp only [opA, map_evS, c1], c2, c3, c4⟩, c5⟩
 ·rename_i x args
  split at e
  ·rename_i f a b hx
   have hx' : ev (denF I t) x = .func (.func f) a b := by rw [ev_denF, hx]; rfl
   obtain ⟨v, J, n, c1, c2, c3, c4, c5⟩ := hC f _ I hn K Q ⟨by
    rw [List.all_append, List.all_append, raws_bndV, args_bnd G.t args, raws_bndV]; rfl, G.h⟩ e
   have hd : ∀ (p q r : SFr), denF I (p ++ (q ++ r)) = denF I p ++ (denF I q ++ denF I r) := fun p q r => by simp only [denF, List.map_append]
   rw [hd, raws_den, raws_den] at c1
   exact ⟨v, J, n, ⟨by simp only [opA, hx', map_evS, c1], c2, c3, c4⟩, c5⟩
  ·cases e
 ·split at e
  ·rename_i v hv
   split at e
   ·rename_i hb; exact ⟨v, I, _, ⟨pureS_ok hv, .refl I, hb, G.h⟩, e⟩
   ·cases e
  ·split at e
   ·rename_i v J hv
    split at e
    ·rename_i hb
     simp only [Bool.and_eq_true] at hb
     obtain ⟨q1, q2⟩ := effS_ok (Γ := T.env Γ) hv G
     exact ⟨v, J, _, ⟨q1, q2, hb.1, hb.2⟩, e⟩
    ·cases e
   ·cases e
def kc : IK → Nat
 | .mov _ => 1
 | .pick _ _ _ => 2
 | .box _ => 3
 | .alloc _ => 4
 | .build _ _ => 5
 | .mkrow _ _ _ => 6
 | .load _ _ => 7
 | .store _ _ _ => 8
 | .nilck _ => 9
 | .bin _ _ _ => 10
 | .eqv _ _ _ _ => 11
 | .un _ _ => 12
 | .conv _ _ => 13
 | .b2s _ => 14
 | .mkfun _ _ _ => 15
 | .mkslice _ _ _ _ _ => 16
 | .slice _ _ _ _ _ => 17
 | .strsl _ _ _ => 18
 | .slarr _ _ _ _ _ => 19
 | .fld _ _ _ => 20
 | .fadr _ _ => 21
 | .iadr _ _ _ _ => 22
 | .idx _ _ _ _ _ => 23
 | .sidx _ _ => 24
 | .ext _ _ => 25
 | .call _ _ => 26
 | .callv _ _ => 27
 | .len _ => 28
 | .slen _ => 29
 | .append _ _ _ _ => 30
 | .copy _ _ _ => 31
 | .mn _ _ => 32
 | .mx _ _ => 33
 | .bad => 34
def opUS (T : Plain) (Γ : Env) (C : CallS) (d : Nat) (k : IK) (t : SFr) (I : SH) (hn : Hs) (K : SV → SH → Hs → STr) : STr :=
 match hn with
 | .use j v D n => if j = d + 1000000 * kc k then match D.go I with
   | some (J, ps) => if bndV J.length v then claims ps (.claim (opC (T.env Γ) k (denF I t) (denH I) = some (denV (ofs J) v, denH J)) (K v J n)) else .fail
   | none => .fail
  else opUS0 T C k t I hn K
 | .pur j v n => if j = d + 1000000 * kc k then if heapFree k then .claim (opC (T.env Γ) k (denF I t) [] = some (v, [])) (K (.raw v) I n) else .fail else opUS0 T C k t I hn K
 | .bas j v n => if j = d + 1000000 * kc k then match I with
   | .seg H :: _ => if effK k then .fail else .claim (opC (T.env Γ) k (denF I t) H = some (v, H)) (K (.raw v) I n)
   | _ => .fail
  else opUS0 T C k t I hn K
 | hn => opUS0 T C k t I hn K
theorem opUS_holds {T : Plain} {Γ : Env} {C : CallS} (hC : CallOk (T.env Γ) C) {d : Nat} {k : IK} {t : SFr} {I : SH} {hn : Hs} {K : SV → SH → Hs → STr} {Q : PostS} (G : Good t I) (e : (opUS T Γ C d k t I hn K).holds Q) :
  ∃ v J n, OpS (T.env Γ) k t I v J ∧ (K v J n).holds Q := by
 unfold opUS at e
 split at e
 ·rename_i j v D n
  split at e
  ·split at e
   ·rename_i J ps hD
    split at e
    ·rename_i hb
     obtain ⟨c1, c2, c3⟩ := claims_holds _ e
     obtain ⟨g1, g2⟩ := Dl.go_ok hD c1
     exact ⟨v, J, n, ⟨by rw [← opC_eq]; exact c2, g1, hb, g2⟩, c3⟩
    ·cases e
   ·cases e
  ·exact opUS0_holds hC G e
 ·rename_i j v n
  split at e
  ·split at e
   ·rename_i hf
    obtain ⟨c1, c2⟩ := e
    rw [opC_eq] at c1
    exact ⟨.raw v, I, n, ⟨(opA_free hf c1).2, .refl I, rfl, G.h⟩, c2⟩
   ·cases e
  ·exact opUS0_holds hC G e
 ·rename_i j v n
  split at e
  ·split at e
   ·rename_i H I0
    split at e
    ·cases e
    ·rename_i hf
     obtain ⟨c1, c2⟩ := e
     have hf' : effK k = false := by simpa using hf
     rw [opC_eq, opA_pure hf'] at c1
     refine ⟨.raw v, _, n, ⟨?_, .refl _, rfl, G.h⟩, c2⟩
     split at c1
     ·rename_i u hu
      cases c1
      rw [opA_pure hf']
      have : denH (.seg H :: I0) = H ++ denL (ofs (.seg H :: I0)) I0 := rfl
      rw [this, pureA_more hu]
      rfl
     ·cases c1
   ·cases e
  ·exact opUS0_holds hC G e
 ·exact opUS0_holds hC G e
def runUS (T : Plain) (Γ : Env) (C : CallS) : Nat → List IOp → SFr → SH → Hs → Lv → (SFr → SH → Hs → STr) → STr
 | 0, _, _, _, _, _, _ => .fail
 | _ + 1, [], t, I, hn, _, K => K t I hn
 | n + 1, o :: r, t, I, hn, lv, K =>
  let go (t : SFr) (hn : Hs) : STr := opUS T Γ C (o.dst.getD 9999) o.k t I hn fun v J hn => runUS T Γ C n r (putS t o.dst v) J hn lv K
  let skip (t : SFr) (hn : Hs) : STr := runUS T Γ C n r (putS t o.dst sund) I hn lv K
  match o.g with
  | none => go t hn
  | some (i, p) => match t.getD i sund with
   | .raw (.bool b) => match hn with
    | .join m hl hr hk =>
     let lj : Lv := fun d => isLive d ((o :: r).drop m) lv
     match runJS T n ((o :: r).take m) (t.set i (.raw (.bool true))) I hl lj, runJS T n ((o :: r).take m) (t.set i (.raw (.bool false))) I hr lj with
     | some (q1, t1, _), some (q2, t2, _) => match mergeFS b lj t1 t2 (((o :: r).take m).filterMap (·.dst)) t with
      | some t3 => .req (bif b then q1 else q2) (runUS T Γ C n ((o :: r).drop m) t3 I hk lv K)
      | none => .fail
     | _, _ => .fail
    | hn => brS b hn (fun n => match p with | true => go (t.set i (.raw (.bool true))) n | false => skip (t.set i (.raw (.bool true))) n) (fun n => match p with | true => skip (t.set i (.raw (.bool false))) n | false => go (t.set i (.raw (.bool false))) n)
   | .raw (.tuple ⟨[]⟩) => skip t hn
   | _ => .fail
theorem OpS.put {Γ : Env} {k : IK} {t : SFr} {I J : SH} {v : SV} (o : OpS Γ k t I v J) (G : Good t I) (d : Option Nat) : Good (putS t d v) J ∧ denF J (putS t d v) = put (denF I t) d (denV (ofs J) v) :=
 ⟨⟨putS_bnd (all_up (bndV_up o.grow.le) G.t) o.v, o.h⟩, by rw [putS_den, o.grow.denF G.t]⟩
theorem runUS_holds {T : Plain} {Γ : Env} {C : CallS} (hC : CallOk (T.env Γ) C) {Q : PostS} {K : SFr → SH → Hs → STr} : ∀ (n : Nat) (l : List IOp) (t : SFr) (I : SH) (hn : Hs) (lv : Lv), Good t I → (runUS T Γ C n l t I hn lv K).holds Q →
  ∃ t1 s J m, runR (T.env Γ) l (denF I t) (denH I) = some (t1, denH J) ∧ Ag (fun i => lv i = false) t1 (denF J s) ∧ (Good s J ∧ Grow I J) ∧ (K s J m).holds Q
 | 0, _, _, _, _, _, _, e => by cases e
 | n + 1, [], t, I, hn, lv, G, e => ⟨_, t, I, hn, rfl, .refl _, ⟨G, .refl I⟩, e⟩
 | n + 1, o :: r, t, I, hn, lv, G, e => by
  have go : ∀ (s : SFr) hn, denF I s = denF I t → Good s I → want (denF I t) o.g = true → (opUS T Γ C (o.dst.getD 9999) o.k s I hn fun v J hn => runUS T Γ C n r (putS s o.dst v) J hn lv K).holds Q →
    ∃ t1 s J m, runR (T.env Γ) (o :: r) (denF I t) (denH I) = some (t1, denH J) ∧ Ag (fun i => lv i = false) t1 (denF J s) ∧ (Good s J ∧ Grow I J) ∧ (K s J m).holds Q := by
   intro s hn hs Gs hw e
   obtain ⟨v, J, n1, h2, h3⟩ := opUS_holds hC Gs e
   obtain ⟨p1, p2⟩ := h2.put Gs o.dst
   obtain ⟨t1, s1, J1, n2, h4, h5, h6, h7⟩ := runUS_holds hC n r _ _ _ _ p1 h3
   rw [p2] at h4
   exact ⟨t1, s1, J1, n2, by rw [← hs]; rw [← hs] at hw; simp only [runR, hw, if_true, h2.op, h4], h5, ⟨h6.1, h2.grow.trans h6.2⟩, h7⟩
  have skip : ∀ (s : SFr) hn, denF I s = denF I t → Good s I → want (denF I t) o.g = false → (runUS T Γ C n r (putS s o.dst sund) I hn lv K).holds Q →
    ∃ t1 s J m, runR (T.env Γ) (o :: r) (denF I t) (denH I) = some (t1, denH J) ∧ Ag (fun i => lv i = false) t1 (denF J s) ∧ (Good s J ∧ Grow I J) ∧ (K s J m).holds Q := by
   intro s hn hs Gs hw e
   obtain ⟨t1, s1, J1, n2, h4, h5, h6, h7⟩ := runUS_holds hC n r _ _ _ _ ⟨putS_bnd (d := o.dst) Gs.t (v := sund) rfl, Gs.h⟩ e
   rw [putS_den, hs] at h4
   exact ⟨t1, s1, J1, n2, by simp only [runR, hw, Bool.false_eq_true, if_false]; exact h4, h5, h6, h7⟩
  unfold runUS at e
  dsimp only at e
  split at e
  ·rename_i hg
   exact go t hn rfl G (by simp [want, hg]) e
  ·rename_i i p hg
   split at e
   ·rename_i b hb
    have hgd : (denF I t).getD i undef = .bool b := by rw [getD_den, hb]; rfl
    have hs := setS_same (I := I) hb
    have Gi : ∀ c, Good (t.set i (.raw (.bool c))) I := fun c => ⟨putS_bnd (d := some i) G.t rfl, G.h⟩
    split at e
    ·rename_i m hl hr hk
     split at e
     ·rename_i q1 t1 n1 q2 t2 n2 e1 e2
      split at e
      ·rename_i t3 hm
       obtain ⟨hq, e⟩ := e
       obtain ⟨⟨l1, b1⟩, k1⟩ := runJS_ok (Γ := Γ) n _ _ I _ _ _ _ _ e1 (Gi true).t
       obtain ⟨⟨l2, b2⟩, k2⟩ := runJS_ok (Γ := Γ) n _ _ I _ _ _ _ _ e2 (Gi false).t
       rw [List.length_set] at l1 l2
       obtain ⟨u, eu, au⟩ : ∃ u, runR (T.env Γ) ((o :: r).take m) (denF I t) (denH I) = some (u, denH I) ∧ Ag (fun d => isLive d ((o :: r).drop m) lv = false) u (denF I (if b then t1 else t2)) := by
        cases b with
        | true => rw [hs] at k1; exact k1 (by simpa using hq)
        | false => rw [hs] at k2; exact k2 (by simpa using hq)
       obtain ⟨a3, a4, a5⟩ := join_agS eu l1 l2 G.t b1 hm au
       obtain ⟨t5, s5, J5, n5, h4, h5, h6, h7⟩ := runUS_holds hC n _ _ _ _ _ ⟨a5, G.h⟩ e
       obtain ⟨t6, e6, a6⟩ := runR_ins _ _ _ u _ _ _ a3.symm (fun i hi => hi) h4
       refine ⟨t6, s5, J5, n5, ?_, a6.symm.trans h5, h6, h7⟩
       have := runR_app ((o :: r).take m) ((o :: r).drop m) _ _ u _ eu
       rw [List.take_append_drop] at this
       rw [this, e6]
      ·cases e
     ·cases e
    ·rcases brS_holds e with ⟨hq, m, hk⟩ | ⟨hq, m, hk⟩
     ·subst hq
      cases p with
      | true => exact go _ m hs (Gi true) (by simp only [want, hg, hgd]; rfl) hk
      | false => exact skip _ m hs (Gi true) (by simp only [want, hg, hgd]; rfl) hk
     ·subst hq
      cases p with
      | true => exact skip _ m hs (Gi false) (by simp only [want, hg, hgd]; rfl) hk
      | false => exact go _ m hs (Gi false) (by simp only [want, hg, hgd]; rfl) hk
   ·rename_i hb
    have hgd : (denF I t).getD i undef = .tuple ⟨[]⟩ := by rw [getD_den, hb]; rfl
    exact skip t hn rfl G (by simp only [want, hg, hgd]) e
   ·cases e
def opQS (T : Plain) (k : IK) (t : SFr) (I : SH) : Option (Bool × SV × SH) :=
 match k with
 | .pick c a b => match evS t c with
  | .raw (.bool true) => if bndV I.length (evS t a) then some (true, evS t a, I) else none
  | .raw (.bool false) => if bndV I.length (evS t b) then some (true, evS t b, I) else none
  | _ => none
 | .bin .quo x y => match evS t x, evS t y with
  | .raw (.int k a), .raw (.int k' b) => if k = k' then some (!(decide (b = 0)), .raw (.int k (k.wrap (a.tdiv b))), I) else none
  | _, _ => none
 | .bin .rem x y => match evS t x, evS t y with
  | .raw (.int k a), .raw (.int k' b) => if k = k' then some (!(decide (b = 0)), .raw (.int k (a.tmod b)), I) else none
  | _, _ => none
 | .call f args => if args.all fun o => isRaw (evS t o) then match T.find f (args.map (ev (rt t))) with
   | some (b, v) => some (b, .raw v, I)
   | none => none
  else none
 | k => match pureS k t I with
  | some v => if bndV I.length v then some (true, v, I) else none
  | none => match effS k t I with
   | some (v, J) => if bndV J.length v && J.all (It.bnd J.length) then some (true, v, J) else none
   | none => none
theorem opQS_ok {T : Plain} {Γ : Env} {k : IK} {t : SFr} {I J : SH} {q : Bool} {v : SV} (G : Good t I) (e : opQS T k t I = some (q, v, J)) (hq : q = true) : OpS (T.env Γ) k t I v J := by
 unfold opQS at e
 split at e
 ·rename_i c a b
  split at e
  ·rename_i hc
   have hc' : ev (denF I t) c = .bool true := by rw [ev_denF, hc]; rfl
   split at e
   ·rename_i hb; cases e; exact ⟨by simp only [opA, pureA, hc', ev_denF]; rfl, .refl I, hb, G.h⟩
   ·cases e
  ·rename_i hc
   have hc' : ev (denF I t) c = .bool false := by rw [ev_denF, hc]; rfl
   split at e
   ·rename_i hb; cases e; exact ⟨by simp only [opA, pureA, hc', ev_denF]; rfl, .refl I, hb, G.h⟩
   ·cases e
  ·cases e
 ·split at e
  ·rename_i hx hy
   split at e
   ·rename_i hkk
    cases e
    exact ⟨(div_ok (op := .quo) hx hy hkk (by simpa using hq)).1, .refl I, rfl, G.h⟩
   ·cases e
  ·cases e
 ·split at e
  ·rename_i hx hy
   split at e
   ·rename_i hkk
    cases e
    exact ⟨(div_ok (op := .quo) hx hy hkk (by simpa using hq)).2, .refl I, rfl, G.h⟩
   ·cases e
  ·cases e
 ·split at e
  ·rename_i ha
   split at e
   ·rename_i b v hf
    cases e
    subst hq
    exact ⟨call_ok ha hf, .refl I, rfl, G.h⟩
   ·cases e
  ·cases e
 ·split at e
  ·rename_i v hv
   split at e
   ·rename_i hb; cases e; exact ⟨pureS_ok hv, .refl I, hb, G.h⟩
   ·cases e
  ·split at e
   ·rename_i v J hv
    split at e
    ·rename_i hb
     cases e
     simp only [Bool.and_eq_true] at hb
     obtain ⟨q1, q2⟩ := effS_ok (Γ := T.env Γ) hv G
     exact ⟨q1, q2, hb.1, hb.2⟩
    ·cases e
   ·cases e
def wantS (t : SFr) : Option (Nat × Bool) → Option Bool
 | none => some true
 | some (i, p) => match t.getD i sund with
  | .raw (.bool c) => some (c == p)
  | .raw (.tuple ⟨[]⟩) => some false
  | _ => none
theorem wantS_ok {I : SH} {t : SFr} {g : Option (Nat × Bool)} {b : Bool} (e : wantS t g = some b) : want (denF I t) g = b := by
 unfold wantS at e
 split at e
 ·cases e; rfl
 ·rename_i i p
  split at e
  ·rename_i c hc
   have hgd : (denF I t).getD i undef = .bool c := by rw [getD_den, hc]; rfl
   cases e
   simp only [want, hgd]
  ·rename_i hc
   have hgd : (denF I t).getD i undef = .tuple ⟨[]⟩ := by rw [getD_den, hc]; rfl
   cases e
   simp only [want, hgd]
  ·cases e
def runQS (T : Plain) : List IOp → SFr → SH → Option (Bool × SFr × SH)
 | [], t, I => some (true, t, I)
 | o :: r, t, I => match wantS t o.g with
  | some true => match opQS T o.k t I with
   | some (q, v, J) => match runQS T r (putS t o.dst v) J with
    | some (q2, t2, J2) => some (q && q2, t2, J2)
    | none => none
   | none => none
  | some false => runQS T r (putS t o.dst sund) I
  | none => none
theorem runQS_ok {T : Plain} {Γ : Env} : ∀ (l : List IOp) (t : SFr) (I : SH) (q : Bool) (t' : SFr) (J : SH), runQS T l t I = some (q, t', J) → q = true → Good t I →
  runR (T.env Γ) l (denF I t) (denH I) = some (denF J t', denH J) ∧ Grow I J ∧ Good t' J
 | [], t, I, q, t', J, e, _, G => by cases e; exact ⟨rfl, .refl I, G⟩
 | o :: r, t, I, q, t', J, e, hq, G => by
  simp only [runQS] at e
  simp only [runR]
  split at e
  ·rename_i hw
   rw [wantS_ok (I := I) hw]
   split at e
   ·rename_i q1 v h1 ho
    split at e
    ·rename_i q2 t2 h2 hr
     cases e
     simp only [Bool.and_eq_true] at hq
     have o1 := opQS_ok (Γ := Γ) G ho hq.1
     obtain ⟨p1, p2⟩ := o1.put G o.dst
     obtain ⟨a, b, c⟩ := runQS_ok (Γ := Γ) r _ _ _ _ _ hr hq.2 p1
     rw [p2] at a
     exact ⟨by simp only [if_true, o1.op, a], o1.grow.trans b, c⟩
    ·cases e
   ·cases e
  ·rename_i hw
   rw [wantS_ok (I := I) hw]
   have := runQS_ok (Γ := Γ) r _ _ _ _ _ e hq ⟨putS_bnd (d := o.dst) G.t (v := sund) rfl, G.h⟩
   rw [putS_den] at this
   rw [if_neg (by decide)]
   exact this
  ·cases e
theorem runQS_app {T : Plain} : ∀ (a b : List IOp) (t : SFr) (I : SH) (q : Bool) (t1 : SFr) (I1 : SH) (q' : Bool) (t2 : SFr) (I2 : SH), runQS T a t I = some (q, t1, I1) → runQS T (a ++ b) t I = some (q', t2, I2) →
  ∃ q2, runQS T b t1 I1 = some (q2, t2, I2) ∧ (q' = true → q2 = true)
 | [], b, t, I, q, t1, I1, q', t2, I2, e1, e2 => by cases e1; exact ⟨q', e2, id⟩
 | o :: r, b, t, I, q, t1, I1, q', t2, I2, e1, e2 => by
  simp only [runQS, List.cons_append] at e1 e2
  split at e1
  ·rename_i hw
   rw [hw] at e2
   dsimp only at e2
   split at e1
   ·rename_i q1 v J ho
    rw [ho] at e2
    dsimp only at e2
    split at e1
    ·rename_i q3 t3 J3 hr
     cases e1
     split at e2
     ·rename_i q4 t4 J4 hr4
      cases e2
      obtain ⟨q2, z1, z2⟩ := runQS_app r b _ _ _ _ _ _ _ _ hr hr4
      exact ⟨q2, z1, fun h => z2 (by simp only [Bool.and_eq_true] at h; exact h.2)⟩
     ·cases e2
    ·cases e1
   ·cases e1
  ·rename_i hw
   rw [hw] at e2
   exact runQS_app r b _ _ _ _ _ _ _ _ e1 e2
  ·cases e1
def cutS (n : Nat) (t : SFr) : SFr := t.map fun v => if bndV n v then v else sund
theorem cutS_good {t : SFr} {I : SH} (hI : I.all (It.bnd I.length) = true) : Good (cutS I.length t) I := ⟨by
 unfold cutS
 rw [List.all_map]
 refine List.all_eq_true.2 fun v _ => ?_
 simp only [Function.comp]
 split
 ·rename_i h; exact h
 ·rfl, hI⟩
theorem cutS_ev {t : SFr} {n : Nat} {o : Operand} (h : bndV n (evS t o) = true) : evS (cutS n t) o = evS t o := by
 cases o with
 | tmp i =>
  simp only [evS, cutS, List.getD, List.getElem?_map] at h ⊢
  cases hi : t[i]? with
  | none => rfl
  | some v => rw [hi] at h; simp only [Option.getD_some] at h; simp [h]
 | _ => rfl
def Near (I J : SH) : Prop := ∀ k, k ≤ I.length → k ≤ J.length → ofs I k = ofs J k
theorem Grow.near {I J : SH} (g : Grow I J) : Near I J := fun k h _ => (g.ofs k h).symm
theorem Near.symm {I J : SH} (g : Near I J) : Near J I := fun k h h' => (g k h' h).symm
theorem near_op {Γ : Env} {k : IK} {t : SFr} {I J : SH} {h : Heap} (N : Near I J) (hI : t.all (bndV I.length) = true) (hb : ((opnds k).all fun o => bndV J.length (evS t o)) = true) : opA Γ k (denF I t) h = opA Γ k (denF J (cutS J.length t)) h := by
 refine opA_congr fun o ho => ?_
 have h1 := List.all_eq_true.1 hb o ho
 rw [ev_denF, ev_denF, cutS_ev h1]
 rcases Nat.le_total I.length J.length with q | q
 ·exact denV_congr (n := I.length) (fun k hk => N k (by omega) (by omega)) _ (evS_bnd hI o)
 ·exact denV_congr (n := J.length) (fun k hk => N k (by omega) (by omega)) _ h1
def eqQ (n : Nat) : SV → SV → Bool
 | .raw a, .raw b => eqV a b
 | .ptr a b, .ptr c d => decide (a = c) && (decide (b = d) && decide (a < n))
 | .sl a b c d, .sl x y z w => decide (a = x) && (decide (b = y) && (decide (c = z) && (decide (d = w) && decide (a < n))))
 | _, _ => false
theorem eqQ_ok {f g : Nat → Nat} {n : Nat} (h : ∀ k, k < n → f k = g k) {u v : SV} (e : eqQ n u v = true) : eqV (denV f u) (denV g v) = true := by
 unfold eqQ at e
 split at e
 ·exact e
 ·simp only [Bool.and_eq_true, decide_eq_true_eq] at e
  obtain ⟨rfl, rfl, hn⟩ := e
  simp only [denV, denA, den0, h _ hn, eqV, eqAg, eq0, decide_true]
 ·simp only [Bool.and_eq_true, decide_eq_true_eq] at e
  obtain ⟨rfl, rfl, rfl, rfl, hn⟩ := e
  simp only [denV, denA, den0, h _ hn, eqV, eqAg, eq0, decide_true, Bool.and_self]
 ·cases e
def crossQS (T : Plain) (os : List IOp) (t : SFr) (I : SH) : List (Nat × Nat) → Bool
 | [] => true
 | (i, j) :: r => (match os[i]?, runQS T (os.take i) t I, runQS T (os.take (if i < j then j + 1 else j)) t I with
  | some x, some (q1, ti, Ii), some (q2, _, Ij) => q1 && (q2 && (match wantS ti x.g with
   | some true => ((opnds x.k).all fun o => bndV Ij.length (evS ti o)) && (match opQS T x.k ti Ii, opQS T x.k (cutS Ij.length ti) Ij with
    | some (q3, v, _), some (q4, v', _) => q3 && (q4 && eqQ (min Ii.length Ij.length) v v')
    | _, _ => false)
   | some false => true
   | none => false))
  | _, _, _ => false) && crossQS T os t I r
theorem prefix_near {T : Plain} {os : List IOp} {t : SFr} {I : SH} (G : Good t I) : ∀ (i j : Nat), i ≤ j → ∀ {qi : Bool} {ti : SFr} {Ii : SH} {qj : Bool} {tj : SFr} {Ij : SH}, runQS T (os.take i) t I = some (qi, ti, Ii) → qi = true →
  runQS T (os.take j) t I = some (qj, tj, Ij) → qj = true → Near Ii Ij := by
 intro i j hij qi ti Ii qj tj Ij h1 hq1 h2 hq2
 have he : os.take j = os.take i ++ (os.take j).drop i := by
  have := (List.take_append_drop i (os.take j)).symm
  rw [List.take_take, Nat.min_eq_left hij] at this
  exact this
 rw [he] at h2
 obtain ⟨q2, z1, z2⟩ := runQS_app _ _ _ _ _ _ _ _ _ _ h1 h2
 obtain ⟨_, _, G1⟩ := runQS_ok (Γ := noEnv) _ _ _ _ _ _ h1 hq1 G
 exact (runQS_ok (Γ := noEnv) _ _ _ _ _ _ z1 (z2 hq2) G1).2.1.near
theorem crossQS_ok {T : Plain} {Γ : Env} {os : List IOp} {t : SFr} {I : SH} (G : Good t I) : ∀ (X : List (Nat × Nat)), crossQS T os t I X = true → crossB (T.env Γ) os (denF I t) (denH I) X = true
 | [], _ => rfl
 | (i, j) :: r, e => by
  simp only [crossQS, Bool.and_eq_true] at e
  simp only [crossB, Bool.and_eq_true]
  refine ⟨?_, crossQS_ok G r e.2⟩
  have e1 := e.1
  split at e1
  ·rename_i x q1 ti Ii q2 tj Ij hx r1 r2
   simp only [Bool.and_eq_true] at e1
   obtain ⟨g1, g2, g3⟩ := e1
   obtain ⟨a1, a2, a3⟩ := runQS_ok (Γ := Γ) _ _ _ _ _ _ r1 g1 G
   obtain ⟨b1, b2, b3⟩ := runQS_ok (Γ := Γ) _ _ _ _ _ _ r2 g2 G
   have N : Near Ii Ij := by
    by_cases hij : i < j
    ·rw [if_pos hij] at r2
     exact prefix_near G i (j + 1) (by omega) r1 g1 r2 g2
    ·rw [if_neg hij] at r2
     exact (prefix_near G j i (by omega) r2 g2 r1 g1).symm
   rw [hx, a1, b1]
   dsimp only
   split at g3
   ·rename_i hw
    rw [wantS_ok (I := Ii) hw, if_pos rfl]
    simp only [Bool.and_eq_true] at g3
    obtain ⟨g4, g5⟩ := g3
    split at g5
    ·rename_i q3 v J1 q4 v' J2 o1 o2
     simp only [Bool.and_eq_true] at g5
     have p1 := opQS_ok (Γ := Γ) a3 o1 g5.1
     have p2 := opQS_ok (Γ := Γ) (cutS_good b3.h) o2 g5.2.1
     rw [p1.op, near_op N a3.t g4, p2.op]
     refine eqQ_ok (n := min Ii.length Ij.length) (fun k hk => ?_) g5.2.2
     rw [p1.grow.ofs k (by omega), p2.grow.ofs k (by omega)]
     exact N k (by omega) (by omega)
    ·cases g5
   ·rename_i hw
    rw [wantS_ok (I := Ii) hw]
    simp
   ·cases g3
  ·cases e1
end Go.Am
namespace Go.Am
set_option linter.all false
inductive ChS (Γ : Env) : List IOp → SFr → SH → List (SFr × SH × SV × SH) → SFr → SH → Prop
 | nil (t : SFr) (I : SH) : ChS Γ [] t I [] t I
 | cons {o : IOp} {r : List IOp} {t : SFr} {I : SH} {v : SV} {J : SH} {S : List (SFr × SH × SV × SH)} {t' : SFr} {J' : SH} : want (denF I t) o.g = true → Good t I → OpS Γ o.k t I v J → ChS Γ r (putS t o.dst v) J S t' J' → ChS Γ (o :: r) t I ((t, I, v, J) :: S) t' J'
 | skip {o : IOp} {r : List IOp} {t : SFr} {I : SH} {S : List (SFr × SH × SV × SH)} {t' : SFr} {J' : SH} : want (denF I t) o.g = false → Good t I → ChS Γ r (putS t o.dst sund) I S t' J' → ChS Γ (o :: r) t I ((t, I, sund, I) :: S) t' J'
theorem Good.und {t : SFr} {I : SH} (G : Good t I) (d : Option Nat) : Good (putS t d sund) I ∧ denF I (putS t d sund) = put (denF I t) d undef := ⟨⟨putS_bnd G.t rfl, G.h⟩, by rw [putS_den]; rfl⟩
def hAtS (S : List (SFr × SH × SV × SH)) (f : SH) (j : Nat) : Option SH := match S, j with
 | [], 0 => some f
 | [], _ + 1 => none
 | s :: _, 0 => some s.2.1
 | _ :: r, j + 1 => hAtS r f j
theorem ChS.run {Γ : Env} {os : List IOp} {t : SFr} {I : SH} {S : List (SFr × SH × SV × SH)} {t' : SFr} {J : SH} (c : ChS Γ os t I S t' J) : runR Γ os (denF I t) (denH I) = some (denF J t', denH J) := by
 induction c with
 | nil => rfl
 | cons hg G ho _ ih =>
  rw [(ho.put G _).2] at ih
  simp only [runR, hg, if_true, ho.op, ih]
 | skip hg G _ ih =>
  rw [(G.und _).2] at ih
  simp only [runR, hg, Bool.false_eq_true, if_false, ih]
theorem ChS.good {Γ : Env} {os : List IOp} {t : SFr} {I : SH} {S : List (SFr × SH × SV × SH)} {t' : SFr} {J : SH} (c : ChS Γ os t I S t' J) (G : Good t I) : Good t' J := by
 induction c with
 | nil => exact G
 | cons hg G ho _ ih => exact ih (ho.put G _).1
 | skip hg G _ ih => exact ih (G.und _).1
theorem ChS.grow {Γ : Env} {os : List IOp} {t : SFr} {I : SH} {S : List (SFr × SH × SV × SH)} {t' : SFr} {J : SH} (c : ChS Γ os t I S t' J) : Grow I J := by
 induction c with
 | nil => exact .refl _
 | cons hg G ho _ ih => exact ho.grow.trans ih
 | skip hg G _ ih => exact ih
theorem ChS.heap {Γ : Env} {os : List IOp} {t : SFr} {I : SH} {S : List (SFr × SH × SV × SH)} {t' : SFr} {J : SH} (c : ChS Γ os t I S t' J) : ∀ (j : Nat) (Ij : SH), hAtS S J j = some Ij → (∃ tj, runR Γ (os.take j) (denF I t) (denH I) = some (tj, denH Ij)) ∧ Grow I Ij := by
 induction c with
 | nil t I =>
  intro j Ij e
  cases j with
  | zero => simp only [hAtS, Option.some.injEq] at e; subst e; exact ⟨⟨_, rfl⟩, .refl _⟩
  | succ j => simp [hAtS] at e
 | cons hg G ho _ ih =>
  intro j Ij e
  cases j with
  | zero => simp only [hAtS, Option.some.injEq] at e; subst e; exact ⟨⟨_, rfl⟩, .refl _⟩
  | succ j =>
   obtain ⟨⟨tj, e1⟩, g⟩ := ih j Ij e
   rw [(ho.put G _).2] at e1
   exact ⟨⟨tj, by simp only [List.take_succ_cons, runR, hg, if_true, ho.op, e1]⟩, ho.grow.trans g⟩
 | skip hg G _ ih =>
  intro j Ij e
  cases j with
  | zero => simp only [hAtS, Option.some.injEq] at e; subst e; exact ⟨⟨_, rfl⟩, .refl _⟩
  | succ j =>
   obtain ⟨⟨tj, e1⟩, g⟩ := ih j Ij e
   rw [(G.und _).2] at e1
   exact ⟨⟨tj, by simp only [List.take_succ_cons, runR, hg, Bool.false_eq_true, if_false, e1]⟩, g⟩
theorem ChS.near {Γ : Env} {os : List IOp} {t : SFr} {I : SH} {S : List (SFr × SH × SV × SH)} {t' : SFr} {J : SH} (c : ChS Γ os t I S t' J) : ∀ (i j : Nat) (Ii Ij : SH), hAtS S J i = some Ii → hAtS S J j = some Ij → i ≤ j → Grow Ii Ij := by
 induction c with
 | nil t I =>
  intro i j Ii Ij e1 e2 _
  cases i with
  | succ i => simp [hAtS] at e1
  | zero => cases j with
   | succ j => simp [hAtS] at e2
   | zero => rw [e1] at e2; cases e2; exact .refl _
 | cons hg G ho c ih =>
  intro i j Ii Ij e1 e2 hij
  cases i with
  | zero =>
   simp only [hAtS, Option.some.injEq] at e1; subst e1
   exact ((ChS.cons hg G ho c).heap j Ij e2).2
  | succ i => cases j with
   | zero => omega
   | succ j => exact ih i j Ii Ij e1 e2 (by omega)
 | skip hg G c ih =>
  intro i j Ii Ij e1 e2 hij
  cases i with
  | zero =>
   simp only [hAtS, Option.some.injEq] at e1; subst e1
   exact ((ChS.skip hg G c).heap j Ij e2).2
  | succ i => cases j with
   | zero => omega
   | succ j => exact ih i j Ii Ij e1 e2 (by omega)
theorem ChS.at_ {Γ : Env} {os : List IOp} {t : SFr} {I : SH} {S : List (SFr × SH × SV × SH)} {t' : SFr} {J : SH} (c : ChS Γ os t I S t' J) : ∀ (i : Nat) (x : IOp) (ti : SFr) (Ii : SH) (vi : SV) (Ji : SH), os[i]? = some x → S[i]? = some (ti, Ii, vi, Ji) →
  runR Γ (os.take i) (denF I t) (denH I) = some (denF Ii ti, denH Ii) ∧ (want (denF Ii ti) x.g = true → OpS Γ x.k ti Ii vi Ji) ∧ Good ti Ii ∧ hAtS S J i = some Ii := by
 induction c with
 | nil => intro i x ti Ii vi Ji e; simp at e
 | cons hg G ho _ ih =>
  intro i x ti Ii vi Ji e1 e2
  cases i with
  | zero => simp at e1 e2; obtain ⟨rfl, rfl, rfl, rfl⟩ := e2; subst e1; exact ⟨rfl, fun _ => ho, G, rfl⟩
  | succ i =>
   obtain ⟨a, d, f, g⟩ := ih i x ti Ii vi Ji (by simpa using e1) (by simpa using e2)
   rw [(ho.put G _).2] at a
   exact ⟨by simp only [List.take_succ_cons, runR, hg, if_true, ho.op, a], d, f, g⟩
 | skip hg G _ ih =>
  intro i x ti Ii vi Ji e1 e2
  cases i with
  | zero => simp at e1 e2; obtain ⟨rfl, rfl, rfl, rfl⟩ := e2; subst e1; exact ⟨rfl, fun q => (by rw [hg] at q; cases q), G, rfl⟩
  | succ i =>
   obtain ⟨a, d, f, g⟩ := ih i x ti Ii vi Ji (by simpa using e1) (by simpa using e2)
   rw [(G.und _).2] at a
   exact ⟨by simp only [List.take_succ_cons, runR, hg, Bool.false_eq_true, if_false, a], d, f, g⟩
def chainS (T : Plain) (Γ : Env) : List IOp → List (Option (SV × Dl)) → SFr → SH → (List (SFr × SH × SV × SH) → SFr → SH → STr) → STr
 | [], _, t, I, K => K [] t I
 | _ :: _, [], _, _, _ => .fail
 | o :: r, v :: vs, t, I, K => match wantS t o.g with
  | none => .fail
  | some false => chainS T Γ r vs (putS t o.dst sund) I fun S t' J' => K ((t, I, sund, I) :: S) t' J'
  | some true => match v with
   | some (v, D) => match D.go I with
    | some (J, ps) => if bndV J.length v then claims ps (.claim (opC (T.env Γ) o.k (denF I t) (denH I) = some (denV (ofs J) v, denH J)) (chainS T Γ r vs (putS t o.dst v) J fun S t' J' => K ((t, I, v, J) :: S) t' J')) else .fail
    | none => .fail
   | none => match opQS T o.k t I with
    | some (q, v, J) => .req q (chainS T Γ r vs (putS t o.dst v) J fun S t' J' => K ((t, I, v, J) :: S) t' J')
    | none => .fail
theorem chainS_holds {T : Plain} {Γ : Env} {Q : PostS} : ∀ (os : List IOp) (vs : List (Option (SV × Dl))) (t : SFr) (I : SH) (K : List (SFr × SH × SV × SH) → SFr → SH → STr), Good t I → (chainS T Γ os vs t I K).holds Q →
  ∃ S t' J, ChS (T.env Γ) os t I S t' J ∧ (K S t' J).holds Q
 | [], _, t, I, K, _, e => ⟨[], t, I, .nil t I, e⟩
 | o :: r, [], t, I, K, _, e => by cases e
 | o :: r, v :: vs, t, I, K, G, e => by
  simp only [chainS] at e
  split at e
  ·cases e
  ·rename_i hg
   obtain ⟨S, t', J', c, q⟩ := chainS_holds r vs _ _ _ (G.und _).1 e
   exact ⟨_, t', J', .skip (wantS_ok hg) G c, q⟩
  ·rename_i hg
   split at e
   ·rename_i v D
    split at e
    ·rename_i J ps hD
     split at e
     ·rename_i hb
      obtain ⟨c1, c2, c3⟩ := claims_holds _ e
      obtain ⟨g1, g2⟩ := Dl.go_ok hD c1
      have o1 : OpS (T.env Γ) o.k t I v J := ⟨by rw [← opC_eq]; exact c2, g1, hb, g2⟩
      obtain ⟨S, t', J', c, q⟩ := chainS_holds r vs _ _ _ (o1.put G _).1 c3
      exact ⟨_, t', J', .cons (wantS_ok hg) G o1 c, q⟩
     ·cases e
    ·cases e
   ·split at e
    ·rename_i q v J ho
     obtain ⟨e1, e2⟩ := e
     have o1 := opQS_ok (Γ := Γ) G ho e1
     obtain ⟨S, t', J', c, q⟩ := chainS_holds r vs _ _ _ (o1.put G _).1 e2
     exact ⟨_, t', J', .cons (wantS_ok hg) G o1 c, q⟩
    ·cases e
def pairS (T : Plain) (Γ : Env) (os : List IOp) (S : List (SFr × SH × SV × SH)) (f : SH) : List (Nat × Nat) → STr → STr
 | [], t => t
 | (i, j) :: r, t => match os[i]?, S[i]?, hAtS S f (if i < j then j + 1 else j) with
  | some x, some (ti, Ii, vi, Ji), some Ij => match wantS ti x.g with
   | none => .fail
   | some false => pairS T Γ os S f r t
   | some true => if (opnds x.k).all fun o => bndV Ij.length (evS ti o) then
    match opQS T x.k (cutS Ij.length ti) Ij with
    | some (q, v', _) => .req (q && eqQ (min Ii.length Ij.length) vi v') (pairS T Γ os S f r t)
    | none => .claim ((∃ h2, opC (T.env Γ) x.k (denF Ii ti) (denH Ij) = some (denV (ofs Ji) vi, h2)) ∧ eqV (denV (ofs Ji) vi) (denV (ofs Ji) vi) = true) (pairS T Γ os S f r t)
   else .fail
  | _, _, _ => .fail
theorem pairS_holds {T : Plain} {Γ : Env} {os : List IOp} {t : SFr} {I : SH} {S : List (SFr × SH × SV × SH)} {t' : SFr} {J : SH} (c : ChS (T.env Γ) os t I S t' J) (G : Good t I) {Q : PostS} {k : STr} : ∀ (X : List (Nat × Nat)), (pairS T Γ os S J X k).holds Q → crossB (T.env Γ) os (denF I t) (denH I) X = true ∧ k.holds Q
 | [], e => ⟨rfl, e⟩
 | (i, j) :: r, e => by
  simp only [pairS] at e
  split at e
  ·rename_i x ti Ii vi Ji Ij hx hS hH
   obtain ⟨a1, a3, a4, a5⟩ := c.at_ i x ti Ii vi Ji hx hS
   obtain ⟨⟨tj, b1⟩, _⟩ := c.heap _ _ hH
   have N : Near Ii Ij := by
    by_cases hij : i < j
    ·rw [if_pos hij] at hH
     exact (c.near i (j + 1) Ii Ij a5 hH (by omega)).near
    ·rw [if_neg hij] at hH
     exact (c.near j i Ij Ii hH a5 (by omega)).near.symm
   have hIj : Ij.all (It.bnd Ij.length) = true := by
    have key : ∀ {os : List IOp} {t : SFr} {I : SH} {S : List (SFr × SH × SV × SH)} {t' : SFr} {J : SH}, ChS (T.env Γ) os t I S t' J → Good t I → ∀ (j : Nat) (Ij : SH), hAtS S J j = some Ij → Ij.all (It.bnd Ij.length) = true := by
     intro os t I S t' J c
     induction c with
     | nil t I =>
      intro G j Ij e
      cases j with
      | zero => simp only [hAtS, Option.some.injEq] at e; subst e; exact G.h
      | succ j => simp [hAtS] at e
     | cons hg G0 ho _ ih =>
      intro G j Ij e
      cases j with
      | zero => simp only [hAtS, Option.some.injEq] at e; subst e; exact G.h
      | succ j => exact ih (ho.put G0 _).1 j Ij e
     | skip hg G0 _ ih =>
      intro G j Ij e
      cases j with
      | zero => simp only [hAtS, Option.some.injEq] at e; subst e; exact G.h
      | succ j => exact ih (G0.und _).1 j Ij e
    exact key c G _ _ hH
   split at e
   ·cases e
   ·rename_i hw
    have hw' := wantS_ok (I := Ii) hw
    obtain ⟨q1, q2⟩ := pairS_holds c G r e
    refine ⟨?_, q2⟩
    simp only [crossB, hx, a1, b1, hw', Bool.false_eq_true, if_false, q1, Bool.and_self]
   ·rename_i hw
    have hw' := wantS_ok (I := Ii) hw
    have a3 := a3 hw'
    split at e
    ·rename_i hb
     split at e
     ·rename_i q v' J2 ho
      obtain ⟨e1, e3⟩ := e
      simp only [Bool.and_eq_true] at e1
      obtain ⟨q1, q2⟩ := pairS_holds c G r e3
      refine ⟨?_, q2⟩
      have p2 := opQS_ok (Γ := Γ) (cutS_good hIj) ho e1.1
      simp only [crossB, hx, a1, b1, hw', if_true, a3.op, near_op N a4.t hb, p2.op, q1, Bool.and_true]
      refine eqQ_ok (n := min Ii.length Ij.length) (fun k hk => ?_) e1.2
      rw [a3.grow.ofs k (by omega), p2.grow.ofs k (by omega)]
      exact N k (by omega) (by omega)
     ·obtain ⟨⟨⟨h2, e1⟩, e2⟩, e3⟩ := e
      obtain ⟨q1, q2⟩ := pairS_holds c G r e3
      refine ⟨?_, q2⟩
      rw [opC_eq] at e1
      simp only [crossB, hx, a1, b1, hw', if_true, a3.op, e1, e2, q1, Bool.and_self]
    ·cases e
  ·cases e
def normS (lv : Lv) : Nat → SFr → SFr
 | _, [] => []
 | i, v :: r => (if lv i then v else sund) :: normS lv (i + 1) r
theorem normS_den (lv : Lv) (I : SH) : ∀ (i : Nat) (t : SFr), denF I (normS lv i t) = norm lv i (denF I t)
 | _, [] => rfl
 | i, v :: r => by
  have := normS_den lv I (i + 1) r
  simp only [denF, normS, norm, List.map_cons] at this ⊢
  rw [this]
  split <;> rfl
def execS (T : Plain) (Γ : Env) (C : CallS) : Nat → IL → SFr → SH → Hs → Lv → (Ex → SFr → SH → Hs → STr) → STr
 | 0, _, _, _, _, _, _ => .fail
 | _ + 1, .skip, t, I, hn, _, K => K .normal t I hn
 | _ + 1, .reg ops, t, I, hn, lv, K => runUS T Γ C (2 * ops.length + 10) ops t I hn lv (K .normal)
 | _ + 1, .dreg ops X, t, I, hn, lv, K => match hn with
  | .crs vals n => chainS T Γ ops vals t I fun S t' J => pairS T Γ ops S J X (K .normal t' J n)
  | hn => .req (crossQS T ops t I X) (runUS T Γ C (2 * ops.length + 10) ops t I hn lv (K .normal))
 | n + 1, .seq x y, t, I, hn, lv, K => execS T Γ C n x t I hn (fun i => exL i y || lv i) fun e t' J hn' => match e with
  | .normal => execS T Γ C n y t' J hn' lv K
  | e => K e t' J hn'
 | n + 1, .ite c x y, t, I, hn, lv, K => match evS t c with
  | .raw (.bool b) => brS b hn (fun m => execS T Γ C n x t I m lv K) (fun m => execS T Γ C n y t I m lv K)
  | _ => .fail
 | n + 1, .block id x, t, I, hn, lv, K =>
  let walk (_ : Unit) : STr := execS T Γ C n x t I hn lv fun e t' J hn' => match e with
   | .exit i => if i = id then K .normal t' J hn' else K (.exit i) t' J hn'
   | e => K e t' J hn'
  match hn with
  | .lp j l t1 D m => if j = id then if (List.range t.length).all (fun i => !(lv i) || inL l i) then match D.go I with
    | some (J, ps) => if t1.all (bndV J.length) then claims ps (.claim (Wp (T.env Γ) (inL l) (.block id x) (denF I (normS (fun i => exL i x || inL l i) 0 t)) (denH I) fun e s h' => e = .normal ∧ s = denF J t1 ∧ h' = denH J) (K .normal t1 J m)) else .fail
    | none => .fail else .fail else walk ()
  | .lp2 j l b t1 D1 t2 D2 m1 m2 => if j = id then if (List.range t.length).all (fun i => !(lv i) || inL l i) then match D1.go I, D2.go I with
    | some (J1, ps1), some (J2, ps2) => if t1.all (bndV J1.length) && t2.all (bndV J2.length) then
     .claim (Wp (T.env Γ) (inL l) (.block id x) (denF I (normS (fun i => exL i x || inL l i) 0 t)) (denH I) fun e s h' => if b then e = .normal ∧ s = denF J1 t1 ∧ h' = denH J1 else e = .ret ∧ s = denF J2 t2 ∧ h' = denH J2)
      (.br b (claims ps1 (K .normal t1 J1 m1)) (claims ps2 (K .ret t2 J2 m2))) else .fail
    | _, _ => .fail else .fail else walk ()
  | _ => walk ()
 | n + 1, .loop x, t, I, hn, lv, K => execS T Γ C n x t I hn (fun i => exL i x || lv i) fun e t' J hn' => match e with
  | .normal => execS T Γ C n (.loop x) t' J hn' lv K
  | e => K e t' J hn'
 | _ + 1, .exit id, t, I, hn, _, K => K (.exit id) t I hn
 | _ + 1, .ret, t, I, hn, _, K => K .ret t I hn
def EndS (I : SH) (Q : PostS) (K : Ex → SFr → SH → Hs → STr) : Post2 := fun e s h' => ∃ t J m, s = denF J t ∧ h' = denH J ∧ (Good t J ∧ Grow I J) ∧ (K e t J m).holds Q
theorem execS_holds {T : Plain} {Γ : Env} {C : CallS} (hC : CallOk (T.env Γ) C) {Q : PostS} : ∀ (n : Nat) (x : IL) (t : SFr) (I : SH) (hn : Hs) (lv : Lv) (K : Ex → SFr → SH → Hs → STr), Good t I → (execS T Γ C n x t I hn lv K).holds Q →
  Wp (T.env Γ) lv x (denF I t) (denH I) (EndS I Q K)
 | 0, x, t, I, hn, lv, K, _, e => by cases e
 | n + 1, x, t, I, hn, lv, K, G, e => by
  cases x with
  | skip => exact ⟨1, _, _, _, _, rfl, .refl _, t, I, _, rfl, rfl, ⟨G, .refl I⟩, e⟩
  | exit id => exact ⟨1, _, _, _, _, rfl, .refl _, t, I, _, rfl, rfl, ⟨G, .refl I⟩, e⟩
  | ret => exact ⟨1, _, _, _, _, rfl, .refl _, t, I, _, rfl, rfl, ⟨G, .refl I⟩, e⟩
  | reg ops =>
   obtain ⟨t1, s, J, m, h1, a, G1, h2⟩ := runUS_holds hC _ ops t I hn lv G e
   exact ⟨1, _, _, _, _, by simp only [execF, h1], a, s, J, m, rfl, rfl, G1, h2⟩
  | dreg ops X =>
   simp only [execS] at e
   split at e
   ·obtain ⟨S, t', J, c, e⟩ := chainS_holds _ _ _ _ _ G e
    obtain ⟨q1, q2⟩ := pairS_holds c G X e
    exact ⟨1, _, _, _, _, by simp only [execF, q1, if_true, c.run], .refl _, t', J, _, rfl, rfl, ⟨c.good G, c.grow⟩, q2⟩
   ·obtain ⟨h0, e⟩ := e
    obtain ⟨t1, s, J, m, h1, a, G1, h2⟩ := runUS_holds hC _ ops t I _ lv G e
    exact ⟨1, _, _, _, _, by simp only [execF, crossQS_ok (Γ := Γ) G X h0, if_true, h1], a, s, J, m, rfl, rfl, G1, h2⟩
  | seq x y =>
   refine Wp.seq ((execS_holds hC n x t I hn _ _ G e).mono fun e1 s1 h1 ⟨t1, J1, m1, q1, q2, G1, q3⟩ => ?_)
   cases e1 with
   | normal => subst q1; subst q2; exact (execS_holds hC n y t1 J1 m1 lv K G1.1 q3).mono fun e s h' ⟨t, J, m, r1, r2, r3, r4⟩ => ⟨t, J, m, r1, r2, ⟨r3.1, G1.2.trans r3.2⟩, r4⟩
   | ret => exact ⟨t1, J1, m1, q1, q2, G1, q3⟩
   | exit id => exact ⟨t1, J1, m1, q1, q2, G1, q3⟩
  | ite c x y =>
   simp only [execS] at e
   split at e
   ·rename_i b hb
    have hb' : ev (denF I t) c = .bool b := by rw [ev_denF, hb]; rfl
    rcases brS_holds e with ⟨hq, m, hk⟩ | ⟨hq, m, hk⟩
    ·subst hq
     exact Wp.iteT hb' (execS_holds hC n x t I m lv K G hk)
    ·subst hq
     exact Wp.iteF hb' (execS_holds hC n y t I m lv K G hk)
   ·cases e
  | block id x =>
   have walk : (execS T Γ C n x t I hn lv fun e t' J hn' => match e with
     | .exit i => if i = id then K .normal t' J hn' else K (.exit i) t' J hn'
     | e => K e t' J hn').holds Q → Wp (T.env Γ) lv (.block id x) (denF I t) (denH I) (EndS I Q K) := by
    intro e
    refine Wp.block ((execS_holds hC n x t I hn lv _ G e).mono fun e1 s1 h1 ⟨t1, J1, m1, q1, q2, G1, q3⟩ => ?_)
    cases e1 with
    | normal => exact ⟨t1, J1, m1, q1, q2, G1, q3⟩
    | ret => exact ⟨t1, J1, m1, q1, q2, G1, q3⟩
    | exit i =>
     dsimp only at q3
     simp only [endK]
     split at q3
     ·rename_i hi; rw [if_pos hi]; exact ⟨t1, J1, m1, q1, q2, G1, q3⟩
     ·rename_i hi; rw [if_neg hi]; exact ⟨t1, J1, m1, q1, q2, G1, q3⟩
   have back : ∀ {K' : Post2} (l : List Nat), (List.range t.length).all (fun i => !(lv i) || inL l i) = true → Wp (T.env Γ) (inL l) (.block id x) (denF I (normS (fun i => exL i x || inL l i) 0 t)) (denH I) K' → Wp (T.env Γ) lv (.block id x) (denF I t) (denH I) K' := fun l hl w => by
    rw [normS_den] at w
    refine Wp.lessN (Wp.ag (norm_ag (fun i => exL i x || inL l i) (denF I t)) w) fun i hi q => ?_
    rw [List.all_eq_true] at hl
    have := hl i (List.mem_range.2 (by simpa [denF] using hi))
    rw [q] at this
    simpa using this
   simp only [execS] at e
   split at e
   ·split at e
    ·split at e
     ·rename_i hl
      split at e
      ·rename_i J ps hD
       split at e
       ·rename_i hb
        obtain ⟨c1, c2, c3⟩ := claims_holds _ e
        obtain ⟨g1, g2⟩ := Dl.go_ok hD c1
        exact (back _ hl c2).mono fun e1 s1 h1 ⟨q1, q2, q3⟩ => by subst q1; exact ⟨_, J, _, q2, q3, ⟨⟨hb, g2⟩, g1⟩, c3⟩
       ·cases e
      ·cases e
     ·cases e
    ·exact walk e
   ·split at e
    ·split at e
     ·rename_i hl
      split at e
      ·rename_i J1 ps1 J2 ps2 hD1 hD2
       split at e
       ·rename_i hb
        simp only [Bool.and_eq_true] at hb
        obtain ⟨e1, e2, e3⟩ := e
        refine (back _ hl e1).mono fun e1 s1 h1 q => ?_
        split at q
        ·rename_i hbb
         obtain ⟨q1, q2, q3⟩ := q
         obtain ⟨c1, c2⟩ := claims_holds _ (e2 hbb)
         subst q1; exact ⟨_, J1, _, q2, q3, ⟨⟨hb.1, (Dl.go_ok hD1 c1).2⟩, (Dl.go_ok hD1 c1).1⟩, c2⟩
        ·rename_i hbb
         obtain ⟨q1, q2, q3⟩ := q
         obtain ⟨c1, c2⟩ := claims_holds _ (e3 (by simpa using hbb))
         subst q1; exact ⟨_, J2, _, q2, q3, ⟨⟨hb.2, (Dl.go_ok hD2 c1).2⟩, (Dl.go_ok hD2 c1).1⟩, c2⟩
       ·cases e
      ·cases e
     ·cases e
    ·exact walk e
   ·exact walk e
  | loop x =>
   refine Wp.loop1 ((execS_holds hC n x t I hn _ _ G e).mono fun e1 s1 h1 ⟨t1, J1, m1, q1, q2, G1, q3⟩ => ?_)
   cases e1 with
   | normal => subst q1; subst q2; exact (execS_holds hC n (.loop x) t1 J1 m1 lv K G1.1 q3).mono fun e s h' ⟨t, J, m, r1, r2, r3, r4⟩ => ⟨t, J, m, r1, r2, ⟨r3.1, G1.2.trans r3.2⟩, r4⟩
   | ret => exact ⟨t1, J1, m1, q1, q2, G1, q3⟩
   | exit i => exact ⟨t1, J1, m1, q1, q2, G1, q3⟩
def resS1 (t : SFr) (I : SH) : Res → Option SV
 | .tmp j => some (t.getD j sund)
 | .cell j n => pureS (.load (.tmp j) n) t I
def resSs (t : SFr) (I : SH) : List Res → Option (List SV)
 | [] => some []
 | r :: l => match resS1 t I r, resSs t I l with
  | some v, some vs => some (v :: vs)
  | _, _ => none
def resS (t : SFr) (I : SH) (rs : List Res) : Option SV := match resSs t I rs with
 | some [v] => some v
 | some vs => if vs.all noTupS then (if vs.all isRaw then some (.raw (.tuple ⟨vs.map rawOf⟩)) else some (.tup vs)) else none
 | none => none
theorem resS1_ok {t : SFr} {I : SH} {r : Res} {v : SV} (e : resS1 t I r = some v) : resA1 (denF I t) (denH I) r = some (denV (ofs I) v) := by
 cases r with
 | tmp j =>
  cases e
  simp only [resA1, ← getD_den]
 | cell j n =>
  have := pureS_ok (Γ := noEnv) e
  rw [opA_pure rfl] at this
  split at this
  ·rename_i u hu
   simp only [Option.some.injEq, Prod.mk.injEq, and_true] at this
   rw [← this]
   simpa only [resA1] using hu
  ·cases this
theorem resSs_ok {t : SFr} {I : SH} : ∀ (rs : List Res) (vs : List SV), resSs t I rs = some vs → resAs (denF I t) (denH I) rs = some (vs.map (denV (ofs I)))
 | [], vs, e => by cases e; rfl
 | r :: l, vs, e => by
  simp only [resSs] at e
  split at e
  ·rename_i v vl hv hl
   cases e
   simp only [resAs, resS1_ok hv, resSs_ok l vl hl, List.map_cons]
  ·cases e
theorem resS_ok {t : SFr} {I : SH} {rs : List Res} {v : SV} (e : resS t I rs = some v) : resA (denF I t) (denH I) rs = some (denV (ofs I) v) := by
 unfold resS at e
 split at e
 ·rename_i u hu
  cases e
  simp only [resA, resSs_ok rs _ hu, List.map_cons, List.map_nil]
 ·rename_i vs hn1 hu
  split at e
  ·rename_i hall
   have h1 := resSs_ok rs _ hu
   have hden : (vs.map (denV (ofs I))).all noTup = true := by
    rw [List.all_map]
    refine List.all_eq_true.2 fun x hx => ?_
    exact (noTup_den (List.all_eq_true.1 hall x hx)).1
   have hA : vs.map (denA (ofs I)) = vs.map (denV (ofs I)) := List.map_congr_left fun x hx => by
    have := List.all_eq_true.1 hall x hx
    cases x <;> first | rfl | cases this
   have hne : ∀ (a : Value), vs.map (denV (ofs I)) ≠ [a] := fun a q => by
    match vs, q with
    | [x], _ => exact hn1 x rfl
   have : resA (denF I t) (denH I) rs = some (.tuple ⟨vs.map (denV (ofs I))⟩) := by
    unfold resA
    rw [h1]
    split
    ·rename_i a q; exact absurd (Option.some.inj q) (hne a)
    ·rename_i l _ q
     cases q
     rw [if_pos hden]
    ·rename_i q; cases q
   rw [this]
   split at e
   ·rename_i hr
    cases e
    have : vs.map rawOf = vs.map (denV (ofs I)) := map_congr_all (p := isRaw) (fun v hv => by cases v <;> first | rfl | cases hv) hr
    simp only [denV, denA, den0, this]
   ·cases e
    simp only [denV, hA]
  ·cases e
 ·cases e
end Go.Am
namespace Go.Am
set_option linter.all false
def argsUp (F : FnIL) (args : SFr) : SFr := args ++ List.replicate (F.ntmps - args.length) sund
theorem argsUp_good {F : FnIL} {args : SFr} {I : SH} (G : Good args I) : Good (argsUp F args) I := ⟨by
  unfold argsUp
  rw [List.all_append, G.t, Bool.true_and]
  refine List.all_eq_true.2 fun v hv => ?_
  rw [(List.mem_replicate.1 hv).2]
  rfl, G.h⟩
theorem argsUp_den (F : FnIL) (args : SFr) (I : SH) : denF I (argsUp F args) = denF I args ++ List.replicate (F.ntmps - (denF I args).length) undef := by
 simp only [argsUp, denF, List.map_append, List.map_replicate, List.length_map]; rfl
def RunsTo (Γ : Env) (F : FnIL) (args : List Value) (h : Heap) (v : Value) (h' : Heap) : Prop :=
 ∃ n e t', execF Γ n F.body (args ++ List.replicate (F.ntmps - args.length) undef) h = some (e, t', h') ∧ (e = .normal ∨ e = .ret) ∧ resA t' h' F.res = some v
theorem RunsTo.uniq {Γ : Env} {F : FnIL} {args : List Value} {h : Heap} {v v1 : Value} {h' h1 : Heap} (a : RunsTo Γ F args h v h') (b : RunsTo Γ F args h v1 h1) : v = v1 ∧ h' = h1 := by
 obtain ⟨n, e, t, a1, a2, a3⟩ := a
 obtain ⟨m, e', t', b1, b2, b3⟩ := b
 have p := execF_mono n (max n m) _ _ _ _ (by omega) a1
 have q := execF_mono m (max n m) _ _ _ _ (by omega) b1
 rw [p] at q
 cases q
 rw [a3] at b3
 cases b3
 exact ⟨rfl, rfl⟩
noncomputable def runE (Γ : Env) (F : FnIL) (args : List Value) (h : Heap) : Option (Value × Heap) :=
 open Classical in if H : ∃ r : Value × Heap, RunsTo Γ F args h r.1 r.2 then some (Classical.choose H) else none
theorem runE_some {Γ : Env} {F : FnIL} {args : List Value} {h : Heap} {v : Value} {h' : Heap} (q : RunsTo Γ F args h v h') : runE Γ F args h = some (v, h') := by
 unfold runE
 have H : ∃ r : Value × Heap, RunsTo Γ F args h r.1 r.2 := ⟨(v, h'), q⟩
 rw [dif_pos H]
 have q2 := (Classical.choose_spec H).uniq q
 cases hc : Classical.choose H with
 | mk a b => rw [hc] at q2; obtain ⟨rfl, rfl⟩ := q2; rfl
theorem runE_of {Γ : Env} {F : FnIL} {args : List Value} {h : Heap} {v : Value} {h' : Heap} (e : runE Γ F args h = some (v, h')) : RunsTo Γ F args h v h' := by
 unfold runE at e
 split at e
 ·rename_i H
  have q := Classical.choose_spec H
  cases hc : Classical.choose H with
  | mk a b => rw [hc] at e q; cases e; exact q
 ·cases e
noncomputable def inE (T : Plain) (B : Tab) : Nat → Env → Env
 | 0, Γ => Γ
 | k + 1, Γ => fun f args h => match B.find f with
  | some F => runE (T.env (inE T B k Γ)) F args h
  | none => Γ f args h
def noQt (qt : List Nat) (B : Tab) : Prop := ∀ f F, B.find f = some F → qt.contains f = false
theorem inE_quiet {qt : List Nat} {T : Plain} {B : Tab} {Γ : Env} (hq : QuietEnv qt Γ) (hB : noQt qt B) : ∀ k, QuietEnv qt (inE T B k Γ)
 | 0 => hq
 | k + 1 => fun f args h v h' hf e => by
  simp only [inE] at e
  split at e
  ·rename_i F hF
   rw [hB f F hF] at hf; cases hf
  ·exact hq f args h v h' hf e
theorem inE_ok {P : Program} {qt : List Nat} (hm : P.follows .mixedOrders = true) {T : Plain} (hT : PlainOk P T) {B : Tab} (hB : TabOk P qt B) (hn : noQt qt B) {Γ : Env} (hΓ : EnvOk P Γ) (hq : QuietEnv qt Γ) : ∀ k, EnvOk P (inE T B k Γ)
 | 0 => hΓ
 | k + 1 => fun f args h v h' e => by
  simp only [inE] at e
  split at e
  ·rename_i F hF
   obtain ⟨n, ex, t', r1, r2, r3⟩ := runE_of e
   exact fn_sim (hB f F hF) (execF_sim hm (Plain.ok hT (inE_ok hm hT hB hn hΓ hq k)) (Plain.quiet (inE_quiet hq hn k)) n F.body _ h ex t' h' _ r1 ⟨by rcases r2 with rfl | rfl <;> simp [Ex.ex], v, r3, rfl, rfl⟩)
  ·exact hΓ f args h v h' e
noncomputable def callS (T : Plain) (B : Tab) (Γ : Env) (fuel : Nat) : Nat → CallS
 | 0 => noCall
 | k + 1 => fun f args I hn K => if T.any (fun p => p.1 == f) then .fail else match B.find f with
   | some F => execS T (inE T B k Γ) (callS T B Γ fuel k) fuel F.body (argsUp F args) I hn (resLv F.res) fun e t J hn => match e with
    | .exit _ => .fail
    | _ => match resS t J F.res with
     | some v => if bndV J.length v then K v J hn else .fail
     | none => .fail
   | none => .fail
theorem find_none {T : Plain} {f : Nat} (h : T.any (fun p => p.1 == f) = false) : T.find f = fun _ => none := by
 induction T with
 | nil => rfl
 | cons p r ih =>
  obtain ⟨g, S⟩ := p
  simp only [List.any_cons, Bool.or_eq_false_iff] at h
  have h1 : ¬ f = g := fun q => by subst q; simp at h
  unfold Plain.find
  rw [if_neg h1]
  exact ih h.2
theorem callS_ok {T : Plain} {B : Tab} {Γ : Env} {fuel : Nat} : ∀ (k : Nat), CallOk (T.env (inE T B k Γ)) (callS T B Γ fuel k)
 | 0 => noCall_ok _
 | k + 1 => fun f args I hn K Q G e => by
  simp only [callS] at e
  split at e
  ·cases e
  ·rename_i hT
   have hT' : T.find f = fun _ => none := find_none (Bool.eq_false_iff.2 hT)
   split at e
   ·rename_i F hF
    obtain ⟨n, ex, t', h', s, r1, r2, t, J, m, q1, q2, q3, q4⟩ := execS_holds (callS_ok k) fuel F.body _ I hn (resLv F.res) _ (argsUp_good (F := F) G) e
    subst q1 q2
    have key : ∀ (hne : ex = .normal ∨ ex = .ret), (match resS t J F.res with
     | some v => if bndV J.length v then K v J m else .fail
     | none => .fail).holds Q → ∃ v J n, T.env (inE T B (k + 1) Γ) f (denF I args) (denH I) = some (denV (ofs J) v, denH J) ∧ Grow I J ∧ bndV J.length v = true ∧ J.all (It.bnd J.length) = true ∧ (K v J n).holds Q := by
     intro hne q
     split at q
     ·rename_i v hv
      split at q
      ·rename_i hb
       have hr := resS_ok hv
       have hr' : resA t' (denH J) F.res = some (denV (ofs J) v) := by
        rw [← hr]
        simp only [resA, resAs_ag r2 F.res fun i q => q]
       have run : RunsTo (T.env (inE T B k Γ)) F (denF I args) (denH I) (denV (ofs J) v) (denH J) := by
        rw [argsUp_den] at r1
        exact ⟨n, ex, t', r1, hne, hr'⟩
       refine ⟨v, J, m, ?_, q3.2, hb, q3.1.h, q⟩
       simp only [Plain.env, hT', inE, hF, runE_some run]
      ·cases q
     ·cases q
    cases ex with
    | exit i => cases q4
    | normal => exact key (.inl rfl) q4
    | ret => exact key (.inr rfl) q4
   ·cases e
def pieceS (T : Plain) (Γ : Env) (C : CallS) (fuel : Nat) (lv : Lv) (x : IL) (hn : Hs) (t : SFr) (I : SH) : STr := execS T Γ C fuel x t I hn lv fun e t J _ => .ret e (normS lv 0 t) J
def onS (K : Post2) : PostS := fun e t J => K e (denF J t) (denH J)
theorem Wp.pieceS {T : Plain} {Γ : Env} {C : CallS} {lv : Lv} {x : IL} {t : SFr} {I : SH} {K : Post2} (hC : CallOk (T.env Γ) C) (fuel : Nat) (hn : Hs) (G : Good t I) (e : (Am.pieceS T Γ C fuel lv x hn t I).holds (onS K)) : Wp (T.env Γ) lv x (denF I t) (denH I) K := by
 refine (execS_holds hC fuel x t I hn lv _ G e).ends fun e s h' ⟨t', J, m, q1, q2, _, q3⟩ => ?_
 subst q1 q2
 exact ⟨denF J (normS lv 0 t'), by rw [normS_den]; exact norm_ag lv _, q3⟩
def fnS (T : Plain) (Γ : Env) (C : CallS) (fuel : Nat) (F : FnIL) (hn : Hs) (args : SFr) (I : SH) : STr :=
 execS T Γ C fuel F.body (argsUp F args) I hn (resLv F.res) fun e t J _ => match e with
  | .exit _ => .fail
  | _ => match resS t J F.res with
   | some v => .ret .ret [v] J
   | none => .fail
def valS (Q : Value → Heap → Prop) : PostS := fun _ t J => match t with
 | [v] => Q (denV (ofs J) v) (denH J)
 | _ => False
theorem fnS_sim {P : Program} {qt : List Nat} (hm : P.follows .mixedOrders = true) {T : Plain} {Γ : Env} (hΓ : EnvOk P (T.env Γ)) (hq : QuietEnv qt (T.env Γ)) {C : CallS} (hC : CallOk (T.env Γ) C) {f : Nat} {F : FnIL} (hf : stF P qt f = some F) (fuel : Nat) (hn : Hs) {args : SFr} {I : SH}
  {Q : Value → Heap → Prop} (G : Good args I) (e : (fnS T Γ C fuel F hn args I).holds (valS Q)) : Sim P f (denF I args) (denH I) Q := by
 refine wp_sim' hm hΓ hq hf ?_
 rw [← argsUp_den]
 refine (execS_holds hC fuel F.body _ I hn _ _ (argsUp_good G) e).mono fun e s h' ⟨t, J, m, q1, q2, _, q3⟩ => ?_
 subst q1 q2
 have key : ∀ (hne : e = .normal ∨ e = .ret), (match resS t J F.res with
   | some v => STr.ret .ret [v] J
   | none => .fail).holds (valS Q) → (e = .normal ∨ e = .ret) ∧ ∃ v, resA (denF J t) (denH J) F.res = some v ∧ Q v (denH J) := by
  intro hne q
  split at q
  ·rename_i v hv
   exact ⟨hne, _, resS_ok hv, q⟩
  ·cases q
 cases e with
 | exit i => cases q3
 | normal => exact key (.inl rfl) q3
 | ret => exact key (.inr rfl) q3
abbrev sI (n : Int) : SV := .raw (.int .i64 n)
abbrev sB (b : Bool) : SV := .raw (.bool b)
def frS (n : Nat) (l : List (Nat × SV)) : SFr := l.foldl (fun t p => t.set p.1 p.2) (List.replicate n sund)
theorem frS_den (I : SH) (n : Nat) (l : List (Nat × SV)) : denF I (frS n l) = fr n (l.map fun p => (p.1, denV (ofs I) p.2)) := by
 have : ∀ (l : List (Nat × SV)) (t : SFr), denF I (l.foldl (fun t p => t.set p.1 p.2) t) = (l.map fun p => (p.1, denV (ofs I) p.2)).foldl (fun t p => t.set p.1 p.2) (denF I t) := by
  intro l
  induction l with
  | nil => intro t; rfl
  | cons p r ih =>
   intro t
   simp only [List.foldl_cons, List.map_cons, ih]
   congr 1
   simp only [denF, List.map_set]
 unfold frS fr
 rw [this]
 congr 1
 simp only [denF, List.map_replicate]; rfl
end Go.Am
