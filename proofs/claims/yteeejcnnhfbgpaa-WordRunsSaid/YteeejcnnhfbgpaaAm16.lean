/-
  Every order comes to the same.
-/
import Derived.Test.YteeejcnnhfbgpaaAm15
namespace Go.Am
set_option linter.all false

variable {P : Program} {ι : Map} {h : Heap} {w w' : World} {t : Fr} {a : Act} {qt : List Nat}

/-- Functions that leave the heap as it was. -/
def QuietEnv (qt : List Nat) (Γ : Env) : Prop := ∀ f args h v h', qt.contains f = true → Γ f args h = some (v, h') → h' = h

theorem quiet_opA {Γ : Env} (hq : QuietEnv qt Γ) {k : IK} (hk : isEff qt k = false) {v : Value} {h' : Heap} (e : opA Γ k t h = some (v, h')) : h' = h := by
  by_cases he : effK k = false
  · rw [opA_pure he] at e
    split at e
    · cases e; rfl
    · cases e
  · cases k <;> first | (exact absurd rfl he) | (cases hk; done) | skip
    rename_i f args
    simp only [isEff, Bool.not_eq_false'] at hk
    exact hq f _ h v h' hk e

theorem alloc_opA {Γ : Env} {k : IK} (hk : isAlloc k = true) {v : Value} {h' : Heap} (e : opA Γ k t h = some (v, h')) : ∃ b, h' = h ++ [b] := by
  cases k <;> first | (cases hk; done) | skip
  all_goals simp only [opA] at e
  · split at e
    · cases e; exact ⟨_, rfl⟩
    · cases e
  · cases e; exact ⟨_, rfl⟩
  · split at e
    · cases e; exact ⟨_, rfl⟩
    · cases e
  · split at e
    · split at e
      · cases e; exact ⟨_, rfl⟩
      · cases e
    · cases e

theorem more_opA {Γ : Env} {k : IK} (hk : isEff qt k = false) (hc : isCall k = false) {v : Value} {h' : Heap} {b : Option Blk} (e : opA Γ k t h = some (v, h')) : opA Γ k t (h ++ [b]) = some (v, h ++ [b]) := by
  have he : effK k = false := by cases k <;> first | rfl | (cases hk; done) | (cases hc; done)
  rw [opA_pure he] at e ⊢
  split at e
  · rename_i u hu
    cases e
    rw [pureA_more hu]
  · cases e

theorem stOps_get {ops : Array Oper} : ∀ (l : List Oper) (os : List IOp), stOps P ops l = some os → l.length = os.length ∧ ∀ (i : Nat) (o : Oper), l[i]? = some o → ∃ x : IOp, os[i]? = some x ∧ stOp P ops o = some x
  | [], os, e => by cases e; exact ⟨rfl, by simp⟩
  | o :: l, os, e => by
    simp only [stOps] at e
    split at e
    · rename_i x il hx hil
      cases e
      obtain ⟨h1, h2⟩ := stOps_get l il hil
      refine ⟨by simp [h1], fun i y hy => ?_⟩
      cases i with
      | zero => simp at hy; subst hy; exact ⟨x, rfl, hx⟩
      | succ i => exact h2 i y (by simpa using hy)
    · cases e

theorem pair_of {os : List IOp} {B : List Nat} (hc : chkAll qt os B = true) {i j : Nat} {x y : IOp} (hi : os[i]? = some x) (hj : os[j]? = some y) (hij : i < j) : pairOk qt B x y i j = true := by
  have h1 := (List.getElem?_eq_some_iff.1 hj).1
  have := List.all_eq_true.1 (List.all_eq_true.1 hc j (List.mem_range.2 h1)) i (List.mem_range.2 hij)
  simpa [hi, hj] using this

/-- All that is known of a region and of its walk. -/
structure Reg (P : Program) (qt : List Nat) (Γ : Env) (ops : Array Oper) (os : List IOp) (B : List Nat) (fr : Nat → Fr) (hp : Nat → Heap) (vl : Nat → Value) : Prop where
  st : stOps P ops ops.toList = some os
  bf : befs ops.toList [] = some B
  chk : chkAll qt os B = true
  qu : QuietEnv qt Γ
  walk : Walk Γ os fr hp vl
  cross : ∀ i j x, os[i]? = some x → crossP qt os B i j = true → want (fr i) x.g = true → ∃ h2, opA Γ x.k (fr i) (hp (if i < j then j + 1 else j)) = some (vl i, h2)

section
variable {Γ : Env} {ops : Array Oper} {os : List IOp} {B : List Nat} {fr : Nat → Fr} {hp : Nat → Heap} {vl : Nat → Value}

theorem Reg.len (R : Reg P qt Γ ops os B fr hp vl) : ops.toList.length = os.length := (stOps_get _ _ R.st).1

theorem Reg.same (R : Reg P qt Γ ops os B fr hp vl) {i : Nat} {x : IOp} (hx : os[i]? = some x) (he : isEff qt x.k = false) : hp (i + 1) = hp i := by
  cases hw : want (fr i) x.g with
  | true => exact quiet_opA R.qu he (R.walk.yes i x hx hw)
  | false => exact (R.walk.no i x hx hw).2

/-- A set of operations that have come up. -/
structure Up (P : Program) (qt : List Nat) (ops : Array Oper) (os : List IOp) (S : Nat → Bool) (q : Nat) : Prop where
  closed : ∀ i o, ops.toList[i]? = some o → S i = true → ∀ d ∈ edgesOf o, S d = true
  eff : ∀ e x, os[e]? = some x → isEff qt x.k = true → (S e = true ↔ e < q)
  le : q ≤ os.length

/-- It has not come up, and all that it waits for has. -/
structure Next (ops : Array Oper) (S : Nat → Bool) (i : Nat) (o : Oper) : Prop where
  is : ops.toList[i]? = some o
  not : S i = false
  edges : ∀ d ∈ edgesOf o, S d = true

theorem Reg.done (R : Reg P qt Γ ops os B fr hp vl) {S : Nat → Bool} {q : Nat} (U : Up P qt ops os S q) {i : Nat} {o : Oper} (N : Next ops S i o) {j : Nat} (hj : ord B j i = true) : S j = true :=
  ahead_done R.bf U.closed i o N.is N.edges j hj
/-- What waits for it has not come up. -/
theorem Reg.later (R : Reg P qt Γ ops os B fr hp vl) {S : Nat → Bool} {q : Nat} (U : Up P qt ops os S q) {i : Nat} {o : Oper} (N : Next ops S i o) {j : Nat} {x : IOp} (hx : os[j]? = some x) (hj : ord B i j = true) : S j = false := by
  cases hS : S j with
  | false => rfl
  | true =>
    have hjl : j < ops.toList.length := by rw [R.len]; exact (List.getElem?_eq_some_iff.1 hx).1
    have hoj : ops.toList[j]? = some ops.toList[j] := List.getElem?_eq_getElem hjl
    have := ahead_done R.bf U.closed j _ hoj (U.closed j _ hoj hS) i hj
    rw [N.not] at this
    cases this

theorem Reg.frame (R : Reg P qt Γ ops os B fr hp vl) {S : Nat → Bool} {q : Nat} (U : Up P qt ops os S q) {i : Nat} {o : Oper} (N : Next ops S i o) {x : IOp} (hx : os[i]? = some x) {d : Nat} (hd : d ∈ reads x) :
    (lastV os vl S (fr 0) os.length).getD d undef = (fr i).getD d undef := by
  have hil := (List.getElem?_eq_some_iff.1 hx).1
  have h1 := (last_congr (os := os) (vl := vl) (S := S) (S' := fun j => decide (j < i)) (t := fr 0) (x := d) os.length fun j hj hdst => ?_).1
  · rw [h1, last_lt i os.length, Nat.min_eq_right (by omega), walk_fr R.walk i (by omega)]
  · have hy : os[j]? = some os[j] := List.getElem?_eq_getElem hj
    rw [hy] at hdst
    simp only [Option.bind_some] at hdst
    rcases Nat.lt_trichotomy j i with hji | hji | hji
    · have hp0 := pair_of R.chk hy hx hji
      unfold pairOk at hp0
      have hcl : clash os[j] x = true := by unfold clash; rw [hdst]; simp [hd]
      simp only [hcl, Bool.not_true, Bool.false_and, Bool.or_false] at hp0
      simp [hji, R.done U N hp0]
    · subst hji; simp [N.not]
    · have hp0 := pair_of R.chk hx hy hji
      unfold pairOk at hp0
      have hcl : clash x os[j] = true := by unfold clash; rw [hdst]; simp [hd]
      simp only [hcl, Bool.not_true, Bool.false_and, Bool.or_false] at hp0
      have : ¬ j < i := by omega
      simp [this, R.later U N hy hp0]

theorem ev_of {t t' : Fr} {x : IOp} (hf : ∀ d ∈ reads x, t.getD d undef = t'.getD d undef) : (∀ o ∈ opnds x.k, ev t o = ev t' o) ∧ want t x.g = want t' x.g := by
  constructor
  · intro o ho
    cases o with
    | tmp d => exact hf d (by unfold reads; exact List.mem_append_left _ (List.mem_filterMap.2 ⟨_, ho, rfl⟩))
    | _ => rfl
  · unfold want
    cases hg : x.g with
    | none => rfl
    | some p => dsimp only; rw [hf p.1 (by unfold reads; rw [hg]; simp)]

theorem Reg.eval (R : Reg P qt Γ ops os B fr hp vl) {S : Nat → Bool} {q : Nat} (U : Up P qt ops os S q) {i : Nat} {o : Oper} (N : Next ops S i o) {x : IOp} (hx : os[i]? = some x) (hw : want (fr i) x.g = true) (he : isEff qt x.k = false) :
    opA Γ x.k (fr i) (hp q) = some (vl i, hp q) := by
  have h0 := R.walk.yes i x hx hw
  have hs := R.same hx he
  rw [hs] at h0
  cases hf : heapFree x.k with
  | true => exact (opA_free hf h0).2
  | false =>
    have hil := (List.getElem?_eq_some_iff.1 hx).1
    rcases Nat.lt_or_ge i q with hiq | hiq
    · have up : ∀ m, i ≤ m → m ≤ q → opA Γ x.k (fr i) (hp m) = some (vl i, hp m) := by
        intro m
        induction m with
        | zero => intro h1 _; have : i = 0 := by omega
                  subst this; exact h0
        | succ m ih =>
          intro h1 h2
          by_cases hm : i = m + 1
          · subst hm; exact h0
          have ih := ih (by omega) (by omega)
          have hml : m < os.length := by have := U.le; omega
          have hy : os[m]? = some os[m] := List.getElem?_eq_getElem hml
          cases hey : isEff qt os[m].k with
          | false => rw [R.same hy hey]; exact ih
          | true =>
            have hmi : i ≠ m := by intro h; subst h; rw [hy] at hx; cases hx; rw [he] at hey; cases hey
            have hSm : S m = true := (U.eff m _ hy hey).2 (by omega)
            have hno : ord B i m = false := by
              cases ho : ord B i m with
              | false => rfl
              | true => have := R.later U N hy ho; rw [hSm] at this; cases this
            cases hac : isAlloc os[m].k && !isCall x.k with
            | true =>
              simp only [Bool.and_eq_true, Bool.not_eq_true'] at hac
              cases hwm : want (fr m) os[m].g with
              | true =>
                obtain ⟨b, hb⟩ := alloc_opA hac.1 (R.walk.yes m _ hy hwm)
                rw [hb]
                exact more_opA he hac.2 ih
              | false => rw [(R.walk.no m _ hy hwm).2]; exact ih
            | false =>
              have hcr : crossP qt os B i m = true := by
                unfold crossP
                rw [hx, hy]
                simp only [he, hf, hey, hno, hac, show i < m from by omega, if_true]
                rfl
              obtain ⟨h2', hh⟩ := R.cross i m x hx hcr hw
              rw [if_pos (by omega)] at hh
              have := quiet_opA R.qu he hh
              rw [this] at hh
              exact hh
      exact up q (by omega) (Nat.le_refl q)
    · have down : ∀ k m, m + k = i → q ≤ m → opA Γ x.k (fr i) (hp m) = some (vl i, hp m) := by
        intro k
        induction k with
        | zero => intro m h1 _; have : m = i := by omega
                  subst this; exact h0
        | succ k ih =>
          intro m h1 h2
          have ih := ih (m + 1) (by omega) (by omega)
          have hy : os[m]? = some os[m] := List.getElem?_eq_getElem (by omega)
          cases hey : isEff qt os[m].k with
          | false => rw [R.same hy hey] at ih; exact ih
          | true =>
            have hSm : ¬ S m = true := fun h => by have := (U.eff m _ hy hey).1 h; omega
            have hno : ord B m i = false := by
              cases ho : ord B m i with
              | false => rfl
              | true => exact absurd (R.done U N ho) hSm
            have hcr : crossP qt os B i m = true := by
              unfold crossP
              rw [hx, hy]
              have : ¬ i < m := by omega
              simp only [he, hf, hey, hno, this, if_false]
              rfl
            obtain ⟨h2', hh⟩ := R.cross i m x hx hcr hw
            rw [if_neg (by omega)] at hh
            have := quiet_opA R.qu he hh
            rw [this] at hh
            exact hh
      exact down (i - q) q (by omega) (Nat.le_refl q)

theorem Reg.effAt (R : Reg P qt Γ ops os B fr hp vl) {S : Nat → Bool} {q : Nat} (U : Up P qt ops os S q) {i : Nat} {o : Oper} (N : Next ops S i o) {x : IOp} (hx : os[i]? = some x) (he : isEff qt x.k = true) :
    q ≤ i ∧ hp q = hp i ∧ ∀ e y, os[e]? = some y → isEff qt y.k = true → ((S e || e == i) = true ↔ e < i + 1) := by
  have hqi : q ≤ i := by
    rcases Nat.lt_or_ge i q with h1 | h1
    · have := (U.eff i x hx he).2 h1; rw [N.not] at this; cases this
    · exact h1
  have before : ∀ e y, os[e]? = some y → isEff qt y.k = true → e < i → S e = true := by
    intro e y hy hey hlt
    have hp0 := pair_of R.chk hy hx hlt
    unfold pairOk at hp0
    simp only [hey, he, Bool.and_self, Bool.not_true, Bool.and_false, Bool.or_false] at hp0
    exact R.done U N hp0
  have after : ∀ e y, os[e]? = some y → isEff qt y.k = true → i < e → S e = false := by
    intro e y hy hey hlt
    have hp0 := pair_of R.chk hx hy hlt
    unfold pairOk at hp0
    simp only [hey, he, Bool.and_self, Bool.not_true, Bool.and_false, Bool.or_false] at hp0
    exact R.later U N hy hp0
  refine ⟨hqi, ?_, ?_⟩
  · have hil := (List.getElem?_eq_some_iff.1 hx).1
    have : ∀ k, q + k ≤ i → hp q = hp (q + k) := by
      intro k
      induction k with
      | zero => intro _; rfl
      | succ k ih =>
        intro hk
        rw [ih (by omega)]
        have hy : os[q + k]? = some os[q + k] := List.getElem?_eq_getElem (by omega)
        have hno : isEff qt os[q + k].k = false := by
          cases hey : isEff qt os[q + k].k with
          | false => rfl
          | true =>
            have := (U.eff _ _ hy hey).1 (before _ _ hy hey (by omega))
            omega
        exact (R.same hy hno).symm
    have := this (i - q) (by omega)
    rwa [show q + (i - q) = i by omega] at this
  · intro e y hy hey
    rcases Nat.lt_trichotomy e i with h1 | h1 | h1
    · simp [before e y hy hey h1]; omega
    · subst h1; simp
    · have h2 := after e y hy hey h1
      have h3 : (e == i) = false := by simp; omega
      simp only [h2, h3, Bool.or_self, Bool.false_eq_true, false_iff]
      omega

end

end Go.Am
