/-
  Every order comes to the same.
-/
import Derived.Test.YtjnppjipoibbeaaAm15
namespace Go.Am
set_option linter.all false

variable {P : Program} {ι : Map} {h : Heap} {w w' : World} {t : Fr} {a : Act} {qt : List Nat}

/-- Functions that leave the heap as it was. -/
def QuietEnv (qt : List Nat) (Γ : Env) : Prop := ∀ f args h v h', qt.contains f = true → Γ f args h = some (v, h') → h' = h

theorem quiet_opA {Γ : Env} (hq : QuietEnv qt Γ) {k : IK} (hk : isEff qt k = false) {v : Value} {h' : Heap} (e : opA Γ k t h = some (v, h')) : h' = h := by
  by_cases he : effK k = false
  · rw [opA_pure he] at e
    split at e
    · cases e; rfl
    · cases e
  · cases k <;> first | (exact absurd rfl he) | (cases hk; done) | skip
    rename_i f args
    simp only [isEff, Bool.not_eq_false'] at hk
    exact hq f _ h v h' hk e

theorem alloc_opA {Γ : Env} {k : IK} (hk : isAlloc k = true) {v : Value} {h' : Heap} (e : opA Γ k t h = some (v, h')) : ∃ b, h' = h ++ [b] := by
  cases k <;> first | (cases hk; done) | skip
  all_goals simp only [opA] at e
  · split at e
    · cases e; exact ⟨_, rfl⟩
    · cases e
  · cases e; exact ⟨_, rfl⟩
  · split at e
    · cases e; exact ⟨_, rfl⟩
    · cases e
  · split at e
    · split at e
      · cases e; exact ⟨_, rfl⟩
      · cases e
    · cases e

theorem more_opA {Γ : Env} {k : IK} (hk : isEff qt k = false) (hc : isCall k = false) {v : Value} {h' : Heap} {b : Option Blk} (e : opA Γ k t h = some (v, h')) : opA Γ k t (h ++ [b]) = some (v, h ++ [b]) := by
  have he : effK k = false := by cases k <;> first | rfl | (cases hk; done) | (cases hc; done)
  rw [opA_pure he] at e ⊢
  split at e
  · rename_i u hu
    cases e
    rw [pureA_more hu]
  · cases e

theorem stOps_get {ops : Array Oper} : ∀ (l : List Oper) (os : List IOp), stOps P ops l = some os → l.length = os.length ∧ ∀ (i : Nat) (o : Oper), l[i]? = some o → ∃ x : IOp, os[i]? = some x ∧ stOp P ops o = some x
  | [], os, e => by cases e; exact ⟨rfl, by simp⟩
  | o :: l, os, e => by
    simp only [stOps] at e
    split at e
    · rename_i x il hx hil
      cases e
      obtain ⟨h1, h2⟩ := stOps_get l il hil
      refine ⟨by simp [h1], fun i y hy => ?_⟩
      cases i with
      | zero => simp at hy; subst hy; exact ⟨x, rfl, hx⟩
      | succ i => exact h2 i y (by simpa using hy)
    · cases e

theorem pair_of {ol : List Oper} {os : List IOp} {B : List Nat} (hc : chkAll qt ol os B = true) {i j : Nat} {x y : IOp} (hi : os[i]? = some x) (hj : os[j]? = some y) (hij : i < j) : pairOk qt ol os B x y i j = true := by
  have h1 := (List.getElem?_eq_some_iff.1 hj).1
  have := List.all_eq_true.1 (List.all_eq_true.1 hc j (List.mem_range.2 h1)) i (List.mem_range.2 hij)
  simpa [hi, hj] using this

/-- All that is known of a region and of its walk. -/
structure Reg (P : Program) (qt : List Nat) (Γ : Env) (ops : Array Oper) (os : List IOp) (B : List Nat) (fr : Nat → Fr) (hp : Nat → Heap) (vl : Nat → Value) : Prop where
  st : stOps P ops ops.toList = some os
  bf : befs ops.toList [] = some B
  chk : chkAll qt ops.toList os B = true
  qu : QuietEnv qt Γ
  walk : Walk Γ os fr hp vl
  cross : ∀ i j x, os[i]? = some x → crossP qt os B i j = true → want (fr i) x.g = true → ∃ h2, opA Γ x.k (fr i) (hp (if i < j then j + 1 else j)) = some (vl i, h2)

section
variable {Γ : Env} {ops : Array Oper} {os : List IOp} {B : List Nat} {fr : Nat → Fr} {hp : Nat → Heap} {vl : Nat → Value}

theorem Reg.len (R : Reg P qt Γ ops os B fr hp vl) : ops.toList.length = os.length := (stOps_get _ _ R.st).1

theorem Reg.same (R : Reg P qt Γ ops os B fr hp vl) {i : Nat} {x : IOp} (hx : os[i]? = some x) (he : isEff qt x.k = false) : hp (i + 1) = hp i := by
  cases hw : want (fr i) x.g with
  | true => exact quiet_opA R.qu he (R.walk.yes i x hx hw)
  | false => exact (R.walk.no i x hx hw).2

/-- A set of operations that have come up. -/
structure Up (P : Program) (qt : List Nat) (ops : Array Oper) (os : List IOp) (S : Nat → Bool) (q : Nat) : Prop where
  closed : ∀ i o, ops.toList[i]? = some o → S i = true → ∀ d ∈ edgesOf o, S d = true
  lt : ∀ e x, os[e]? = some x → isEff qt x.k = true → e < q → S e = true
  stop : ∀ x, os[q]? = some x → isEff qt x.k = true ∧ S q = false
  le : q ≤ os.length

/-- It has not come up, and all that it waits for has. -/
structure Next (ops : Array Oper) (S : Nat → Bool) (i : Nat) (o : Oper) : Prop where
  is : ops.toList[i]? = some o
  not : S i = false
  edges : ∀ d ∈ edgesOf o, S d = true

/-- Those whose turn it was. -/
def off (qt : List Nat) (os : List IOp) (S : Nat → Bool) (q : Nat) : Nat → Bool := fun i => S i && (!effB qt os i || decide (i < q))
def earlyB (qt : List Nat) (os : List IOp) (S : Nat → Bool) (q e : Nat) : Bool := S e && (effB qt os e && decide (q ≤ e))
theorem effB_of {e : Nat} {x : IOp} (hx : os[e]? = some x) : effB qt os e = isEff qt x.k := by unfold effB; rw [hx]
theorem off_true {S : Nat → Bool} {q i : Nat} (h : off qt os S q i = true) : S i = true := by unfold off at h; simp only [Bool.and_eq_true] at h; exact h.1
theorem off_false {S : Nat → Bool} {q i : Nat} (h : S i = false) : off qt os S q i = false := by unfold off; simp [h]
theorem off_or {S : Nat → Bool} {q i : Nat} (h : S i = true) : off qt os S q i = true ∨ earlyB qt os S q i = true := by
  unfold off earlyB
  rw [h]
  cases effB qt os i
  · exact .inl rfl
  · by_cases hq : i < q
    · exact .inl (by simp [hq])
    · exact .inr (by simp; omega)
theorem early_of {S : Nat → Bool} {q e : Nat} (h : earlyB qt os S q e = true) : S e = true ∧ q ≤ e ∧ ∃ x, os[e]? = some x ∧ isEff qt x.k = true := by
  unfold earlyB effB at h
  simp only [Bool.and_eq_true, decide_eq_true_eq] at h
  obtain ⟨h1, h2, h3⟩ := h
  cases hx : os[e]? with
  | none => rw [hx] at h2; cases h2
  | some x => rw [hx] at h2; exact ⟨h1, h3, x, rfl, h2⟩
/-- Ahead of one that came ahead of its turn stands one that waits. -/
theorem Up.early {S : Nat → Bool} {q e : Nat} (U : Up P qt ops os S q) (h : earlyB qt os S q e = true) : q < e ∧ S q = false ∧ ∃ y, os[q]? = some y ∧ isEff qt y.k = true := by
  obtain ⟨h1, h2, x, hx, _⟩ := early_of h
  have hel := (List.getElem?_eq_some_iff.1 hx).1
  have hy : os[q]? = some os[q] := List.getElem?_eq_getElem (by omega)
  obtain ⟨s1, s2⟩ := U.stop _ hy
  refine ⟨?_, s2, _, hy, s1⟩
  rcases Nat.lt_or_ge q e with h3 | h3
  · exact h3
  · have : q = e := by omega
    subst this
    rw [h1] at s2
    cases s2

theorem loose_of {ol : List Oper} {j : Nat} {y : IOp} (h : looseOk qt ol os B j = true) (hy : os[j]? = some y) : isAlloc y.k = true ∧ y.g = none ∧ (zOk y.k = true ∧ (opnds y.k).all opdOK = true) ∧ ∃ d, y.dst = some d ∧
    ∀ r o x, r ≠ j → ol[r]? = some o → os[r]? = some x → touches d o x = true → (r < j → ord B r j = true) ∧ (j < r → ∀ e y, os[e]? = some y → isEff qt y.k = true → e < j → ord B e r = true) := by
  unfold looseOk at h
  rw [hy] at h
  simp only [Bool.and_eq_true] at h
  obtain ⟨⟨⟨h1, h2⟩, h3⟩, h4⟩ := h
  refine ⟨h1, by simpa using h2, h3, ?_⟩
  cases hd : y.dst with
  | none => rw [hd] at h4; cases h4
  | some d =>
    rw [hd] at h4
    refine ⟨d, rfl, fun r o x hr ho hx ht => ?_⟩
    have hrl := (List.getElem?_eq_some_iff.1 hx).1
    have h5 := List.all_eq_true.1 h4 r (List.mem_range.2 hrl)
    have hb : (r == j) = false := by simp [hr]
    rw [ho, hx] at h5
    simp only [hb, Bool.false_or, ht, Bool.not_true] at h5
    constructor
    · intro hlt; rw [if_pos hlt] at h5; exact h5
    · intro hlt e y' hy' hey he
      rw [if_neg (by omega)] at h5
      have h6 := List.all_eq_true.1 h5 e (List.mem_range.2 he)
      rw [effB_of hy', hey] at h6
      simpa using h6

theorem Reg.done (R : Reg P qt Γ ops os B fr hp vl) {S : Nat → Bool} {q : Nat} (U : Up P qt ops os S q) {i : Nat} {o : Oper} (N : Next ops S i o) {j : Nat} (hj : ord B j i = true) : S j = true :=
  ahead_done R.bf U.closed i o N.is N.edges j hj
/-- What waits for it has not come up. -/
theorem Reg.later (R : Reg P qt Γ ops os B fr hp vl) {S : Nat → Bool} {q : Nat} (U : Up P qt ops os S q) {i : Nat} {o : Oper} (N : Next ops S i o) {j : Nat} {x : IOp} (hx : os[j]? = some x) (hj : ord B i j = true) : S j = false := by
  cases hS : S j with
  | false => rfl
  | true =>
    have hjl : j < ops.toList.length := by rw [R.len]; exact (List.getElem?_eq_some_iff.1 hx).1
    have hoj : ops.toList[j]? = some ops.toList[j] := List.getElem?_eq_getElem hjl
    have := ahead_done R.bf U.closed j _ hoj (U.closed j _ hoj hS) i hj
    rw [N.not] at this
    cases this

/-- One that came ahead of its turn is of those that may. -/
theorem Reg.loose (R : Reg P qt Γ ops os B fr hp vl) {S : Nat → Bool} {q e : Nat} (U : Up P qt ops os S q) (h : earlyB qt os S q e = true) : looseOk qt ops.toList os B e = true := by
  obtain ⟨h1, h2, x, hx, hex⟩ := early_of h
  obtain ⟨h3, h4, y, hy, hey⟩ := U.early h
  have hp0 := pair_of R.chk hy hx h3
  unfold pairOk at hp0
  simp only [hey, hex, Bool.and_self, Bool.not_true, Bool.false_or, Bool.or_eq_true, Bool.and_eq_true] at hp0
  rcases hp0 with hp0 | hp0
  · have hjl : e < ops.toList.length := by rw [R.len]; exact (List.getElem?_eq_some_iff.1 hx).1
    have hoj : ops.toList[e]? = some ops.toList[e] := List.getElem?_eq_getElem hjl
    have := ahead_done R.bf U.closed e _ hoj (U.closed e _ hoj h1) q hp0
    rw [h4] at this
    cases this
  · exact hp0.2
/-- What is to come up doesn't look at the place of one that came ahead of its turn. -/
theorem Reg.notouch (R : Reg P qt Γ ops os B fr hp vl) {S : Nat → Bool} {q e : Nat} (U : Up P qt ops os S q) (h : earlyB qt os S q e = true) {i : Nat} {o : Oper} (N : Next ops S i o) {x y : IOp} (hx : os[i]? = some x)
    (hy : os[e]? = some y) {d : Nat} (hd : y.dst = some d) : touches d o x = false := by
  cases ht : touches d o x with
  | false => rfl
  | true =>
    obtain ⟨h1, h2, _⟩ := early_of h
    obtain ⟨h3, h4, z, hz, hez⟩ := U.early h
    obtain ⟨_, _, _, d', hd', hall⟩ := loose_of (R.loose U h) hy
    rw [hd] at hd'
    cases hd'
    have hne : i ≠ e := by intro q; subst q; rw [N.not] at h1; cases h1
    obtain ⟨g1, g2⟩ := hall i o x hne N.is hx ht
    rcases Nat.lt_or_ge i e with hlt | hge
    · have hjl : e < ops.toList.length := by rw [R.len]; exact (List.getElem?_eq_some_iff.1 hy).1
      have hoj : ops.toList[e]? = some ops.toList[e] := List.getElem?_eq_getElem hjl
      have := ahead_done R.bf U.closed e _ hoj (U.closed e _ hoj h1) i (g1 hlt)
      rw [N.not] at this
      cases this
    · have := R.done U N (g2 (by omega) q z hz hez h3)
      rw [h4] at this
      cases this

theorem Reg.frame (R : Reg P qt Γ ops os B fr hp vl) {S : Nat → Bool} {q : Nat} (U : Up P qt ops os S q) {i : Nat} {o : Oper} (N : Next ops S i o) {x : IOp} (hx : os[i]? = some x) {d : Nat} (hd : d ∈ reads x) :
    (lastV os vl (off qt os S q) (fr 0) os.length).getD d undef = (fr i).getD d undef := by
  have hil := (List.getElem?_eq_some_iff.1 hx).1
  have h1 := (last_congr (os := os) (vl := vl) (S := off qt os S q) (S' := fun j => decide (j < i)) (t := fr 0) (x := d) os.length fun j hj hdst => ?_).1
  · rw [h1, last_lt i os.length, Nat.min_eq_right (by omega), walk_fr R.walk i (by omega)]
  · have hy : os[j]? = some os[j] := List.getElem?_eq_getElem hj
    rw [hy] at hdst
    simp only [Option.bind_some] at hdst
    rcases Nat.lt_trichotomy j i with hji | hji | hji
    · have hp0 := pair_of R.chk hy hx hji
      unfold pairOk at hp0
      have hcl : clash os[j] x = true := by unfold clash; rw [hdst]; simp [hd]
      simp only [hcl, Bool.not_true, Bool.false_and, Bool.or_false] at hp0
      rcases off_or (qt := qt) (os := os) (q := q) (R.done U N hp0) with h2 | h2
      · simp [hji, h2]
      · have := R.notouch U h2 N hx hy hdst
        unfold touches at this
        have hc : (reads x).contains d = true := by simpa using hd
        rw [hc] at this
        simp at this
    · subst hji; simp [off_false N.not]
    · have hp0 := pair_of R.chk hx hy hji
      unfold pairOk at hp0
      have hcl : clash x os[j] = true := by unfold clash; rw [hdst]; simp [hd]
      simp only [hcl, Bool.not_true, Bool.false_and, Bool.or_false] at hp0
      have : ¬ j < i := by omega
      simp [this, off_false (R.later U N hy hp0)]

theorem ev_of {t t' : Fr} {x : IOp} (hf : ∀ d ∈ reads x, t.getD d undef = t'.getD d undef) : (∀ o ∈ opnds x.k, ev t o = ev t' o) ∧ want t x.g = want t' x.g := by
  constructor
  · intro o ho
    cases o with
    | tmp d => exact hf d (by unfold reads; exact List.mem_append_left _ (List.mem_filterMap.2 ⟨_, ho, rfl⟩))
    | _ => rfl
  · unfold want
    cases hg : x.g with
    | none => rfl
    | some p => dsimp only; rw [hf p.1 (by unfold reads; rw [hg]; simp)]

theorem Reg.eval (R : Reg P qt Γ ops os B fr hp vl) {S : Nat → Bool} {q : Nat} (U : Up P qt ops os S q) {i : Nat} {o : Oper} (N : Next ops S i o) {x : IOp} (hx : os[i]? = some x) (hw : want (fr i) x.g = true) (he : isEff qt x.k = false) :
    opA Γ x.k (fr i) (hp q) = some (vl i, hp q) := by
  have h0 := R.walk.yes i x hx hw
  have hs := R.same hx he
  rw [hs] at h0
  cases hf : heapFree x.k with
  | true => exact (opA_free hf h0).2
  | false =>
    have hil := (List.getElem?_eq_some_iff.1 hx).1
    rcases Nat.lt_or_ge i q with hiq | hiq
    · have up : ∀ m, i ≤ m → m ≤ q → opA Γ x.k (fr i) (hp m) = some (vl i, hp m) := by
        intro m
        induction m with
        | zero => intro h1 _; have : i = 0 := by omega
                  subst this; exact h0
        | succ m ih =>
          intro h1 h2
          by_cases hm : i = m + 1
          · subst hm; exact h0
          have ih := ih (by omega) (by omega)
          have hml : m < os.length := by have := U.le; omega
          have hy : os[m]? = some os[m] := List.getElem?_eq_getElem hml
          cases hey : isEff qt os[m].k with
          | false => rw [R.same hy hey]; exact ih
          | true =>
            have hmi : i ≠ m := by intro h; subst h; rw [hy] at hx; cases hx; rw [he] at hey; cases hey
            have hSm : S m = true := U.lt m _ hy hey (by omega)
            have hno : ord B i m = false := by
              cases ho : ord B i m with
              | false => rfl
              | true => have := R.later U N hy ho; rw [hSm] at this; cases this
            cases hac : isAlloc os[m].k && !isCall x.k with
            | true =>
              simp only [Bool.and_eq_true, Bool.not_eq_true'] at hac
              cases hwm : want (fr m) os[m].g with
              | true =>
                obtain ⟨b, hb⟩ := alloc_opA hac.1 (R.walk.yes m _ hy hwm)
                rw [hb]
                exact more_opA he hac.2 ih
              | false => rw [(R.walk.no m _ hy hwm).2]; exact ih
            | false =>
              have hcr : crossP qt os B i m = true := by
                unfold crossP
                rw [hx, hy]
                simp only [he, hf, hey, hno, hac, show i < m from by omega, if_true]
                rfl
              obtain ⟨h2', hh⟩ := R.cross i m x hx hcr hw
              rw [if_pos (by omega)] at hh
              have := quiet_opA R.qu he hh
              rw [this] at hh
              exact hh
      exact up q (by omega) (Nat.le_refl q)
    · have down : ∀ k m, m + k = i → q ≤ m → opA Γ x.k (fr i) (hp m) = some (vl i, hp m) := by
        intro k
        induction k with
        | zero => intro m h1 _; have : m = i := by omega
                  subst this; exact h0
        | succ k ih =>
          intro m h1 h2
          have ih := ih (m + 1) (by omega) (by omega)
          have hy : os[m]? = some os[m] := List.getElem?_eq_getElem (by omega)
          cases hey : isEff qt os[m].k with
          | false => rw [R.same hy hey] at ih; exact ih
          | true =>
            have hmi : ¬ i < m := by omega
            have hcr : crossP qt os B i m = true := by
              unfold crossP
              rw [hx, hy]
              simp only [he, hf, hey, hmi, if_false, Bool.not_false, Bool.true_and, Bool.or_eq_true]
              cases hSm : S m with
              | false =>
                refine .inl ?_
                cases ho : ord B m i with
                | false => rfl
                | true => have := R.done U N ho; rw [hSm] at this; cases this
              | true =>
                have hea : earlyB qt os S q m = true := by unfold earlyB; rw [hSm, effB_of hy, hey]; simp; omega
                obtain ⟨h3, h4, z, hz, hez⟩ := U.early hea
                refine .inr (List.any_eq_true.2 ⟨q, List.mem_range.2 h3, ?_⟩)
                rw [effB_of hz, hez]
                have o1 : ord B q m = false := by
                  cases ho : ord B q m with
                  | false => rfl
                  | true =>
                    have hjl : m < ops.toList.length := by rw [R.len]; omega
                    have hoj : ops.toList[m]? = some ops.toList[m] := List.getElem?_eq_getElem hjl
                    have := ahead_done R.bf U.closed m _ hoj (U.closed m _ hoj hSm) q ho
                    rw [h4] at this
                    cases this
                have o2 : ord B q i = false := by
                  cases ho : ord B q i with
                  | false => rfl
                  | true => have := R.done U N ho; rw [h4] at this; cases this
                rw [o1, o2]
                rfl
            obtain ⟨h2', hh⟩ := R.cross i m x hx hcr hw
            rw [if_neg (by omega)] at hh
            have := quiet_opA R.qu he hh
            rw [this] at hh
            exact hh
      exact down (i - q) q (by omega) (Nat.le_refl q)

/-- What turns the heap comes in its turn, or is one that may come ahead of it. -/
theorem Reg.effAt (R : Reg P qt Γ ops os B fr hp vl) {S : Nat → Bool} {q : Nat} (U : Up P qt ops os S q) {i : Nat} {o : Oper} (N : Next ops S i o) {x : IOp} (hx : os[i]? = some x) (he : isEff qt x.k = true) :
    i = q ∨ (q < i ∧ looseOk qt ops.toList os B i = true ∧ S q = false) := by
  have hil := (List.getElem?_eq_some_iff.1 hx).1
  have hqi : q ≤ i := by
    rcases Nat.lt_or_ge i q with h1 | h1
    · have := U.lt i x hx he h1; rw [N.not] at this; cases this
    · exact h1
  by_cases hq : i = q
  · exact .inl hq
  · have hlt : q < i := by omega
    have hy : os[q]? = some os[q] := List.getElem?_eq_getElem (by omega)
    obtain ⟨s1, s2⟩ := U.stop _ hy
    have hp0 := pair_of R.chk hy hx hlt
    unfold pairOk at hp0
    simp only [s1, he, Bool.and_self, Bool.not_true, Bool.false_or, Bool.or_eq_true, Bool.and_eq_true] at hp0
    rcases hp0 with hp0 | hp0
    · have := R.done U N hp0
      rw [s2] at this
      cases this
    · exact .inr ⟨hlt, hp0.2, s2⟩

end

end Go.Am
