/-
  A logic over the kit's wp, part AmC: Am16, Am17, Am18, Am19, Am20, Am21, Am22, Am23. No conditions.
-/
import Derived.Test.YtgdojnamjkhknaaQdAmB
import Derived.Below
namespace Go.Am
set_option linter.all false
variable {P : Program} {ι : Map} {h : Heap} {w w' : World} {t : Fr} {a : Act} {qt : List Nat}
def QuietEnv (qt : List Nat) (Γ : Env) : Prop := ∀ f args h v h', qt.contains f = true → Γ f args h = some (v, h') → h' = h
theorem quiet_opA {Γ : Env} (hq : QuietEnv qt Γ) {k : IK} (hk : isEff qt k = false) {v : Value} {h' : Heap} (e : opA Γ k t h = some (v, h')) : h' = h := by
 by_cases he : effK k = false
 ·rw [opA_pure he] at e
  split at e
  ·cases e; rfl
  ·cases e
 ·cases k <;> first | (exact absurd rfl he) | (cases hk; done) | skip
  rename_i f args
  simp only [isEff, Bool.not_eq_false'] at hk
  exact hq f _ h v h' hk e
theorem alloc_opA {Γ : Env} {k : IK} (hk : isAlloc k = true) {v : Value} {h' : Heap} (e : opA Γ k t h = some (v, h')) : ∃ b, h' = h ++ [b] := by
 cases k <;> first | (cases hk; done) | skip
 all_goals simp only [opA] at e
 ·split at e
  ·cases e; exact ⟨_, rfl⟩
  ·cases e
 ·cases e; exact ⟨_, rfl⟩
 ·split at e
  ·cases e; exact ⟨_, rfl⟩
  ·cases e
 ·split at e
  ·split at e
   ·cases e; exact ⟨_, rfl⟩
   ·cases e
  ·cases e
theorem more_opA {Γ : Env} {k : IK} (hk : isEff qt k = false) (hc : isCall k = false) {v : Value} {h' : Heap} {b : Option Blk} (e : opA Γ k t h = some (v, h')) : opA Γ k t (h ++ [b]) = some (v, h ++ [b]) := by
 have he : effK k = false := by cases k <;> first | rfl | (cases hk; done) | (cases hc; done)
 rw [opA_pure he] at e ⊢
 split at e
 ·rename_i u hu
  cases e
  rw [pureA_more hu]
 ·cases e
theorem stOps_get {ops : Array Oper} : ∀ (l : List Oper) (os : List IOp), stOps P ops l = some os → l.length = os.length ∧ ∀ (i : Nat) (o : Oper), l[i]? = some o → ∃ x : IOp, os[i]? = some x ∧ stOp P ops o = some x
 | [], os, e => by cases e; exact ⟨rfl, by simp⟩
 | o :: l, os, e => by
  simp only [stOps] at e
  split at e
  ·rename_i x il hx hil
   cases e
   obtain ⟨h1, h2⟩ := stOps_get l il hil
   refine ⟨by simp [h1], fun i y hy => ?_⟩
   cases i with
   | zero => simp at hy; subst hy; exact ⟨x, rfl, hx⟩
   | succ i => exact h2 i y (by simpa using hy)
  ·cases e
theorem pair_of {ol : List Oper} {os : List IOp} {B : List Nat} (hc : chkAll qt ol os B = true) {i j : Nat} {x y : IOp} (hi : os[i]? = some x) (hj : os[j]? = some y) (hij : i < j) : pairOk qt ol os B x y i j = true := by
 have h1 := (List.getElem?_eq_some_iff.1 hj).1
 have := List.all_eq_true.1 (List.all_eq_true.1 hc j (List.mem_range.2 h1)) i (List.mem_range.2 hij)
 simpa [hi, hj] using this
structure Reg (P : Program) (qt : List Nat) (Γ : Env) (ops : Array Oper) (os : List IOp) (B : List Nat) (fr : Nat → Fr) (hp : Nat → Heap) (vl : Nat → Value) : Prop where
 st : stOps P ops ops.toList = some os
 bf : befs ops.toList [] = some B
 chk : chkAll qt ops.toList os B = true
 qu : QuietEnv qt Γ
 walk : Walk Γ os fr hp vl
 cross : ∀ i j x, os[i]? = some x → crossP qt os B i j = true → want (fr i) x.g = true → ∃ h2, opA Γ x.k (fr i) (hp (if i < j then j + 1 else j)) = some (vl i, h2)
section
variable {Γ : Env} {ops : Array Oper} {os : List IOp} {B : List Nat} {fr : Nat → Fr} {hp : Nat → Heap} {vl : Nat → Value}
theorem Reg.len (R : Reg P qt Γ ops os B fr hp vl) : ops.toList.length = os.length := (stOps_get _ _ R.st).1
theorem Reg.same (R : Reg P qt Γ ops os B fr hp vl) {i : Nat} {x : IOp} (hx : os[i]? = some x) (he : isEff qt x.k = false) : hp (i + 1) = hp i := by
 cases hw : want (fr i) x.g with
 | true => exact quiet_opA R.qu he (R.walk.yes i x hx hw)
 | false => exact (R.walk.no i x hx hw).2
structure Up (P : Program) (qt : List Nat) (ops : Array Oper) (os : List IOp) (S : Nat → Bool) (q : Nat) : Prop where
 closed : ∀ i o, ops.toList[i]? = some o → S i = true → ∀ d ∈ edgesOf o, S d = true
 lt : ∀ e x, os[e]? = some x → isEff qt x.k = true → e < q → S e = true
 stop : ∀ x, os[q]? = some x → isEff qt x.k = true ∧ S q = false
 le : q ≤ os.length
structure Next (ops : Array Oper) (S : Nat → Bool) (i : Nat) (o : Oper) : Prop where
 is : ops.toList[i]? = some o
 not : S i = false
 edges : ∀ d ∈ edgesOf o, S d = true
def off (qt : List Nat) (os : List IOp) (S : Nat → Bool) (q : Nat) : Nat → Bool := fun i => S i && (!effB qt os i || decide (i < q))
def earlyB (qt : List Nat) (os : List IOp) (S : Nat → Bool) (q e : Nat) : Bool := S e && (effB qt os e && decide (q ≤ e))
theorem effB_of {e : Nat} {x : IOp} (hx : os[e]? = some x) : effB qt os e = isEff qt x.k := by unfold effB; rw [hx]
theorem off_true {S : Nat → Bool} {q i : Nat} (h : off qt os S q i = true) : S i = true := by unfold off at h; simp only [Bool.and_eq_true] at h; exact h.1
theorem off_false {S : Nat → Bool} {q i : Nat} (h : S i = false) : off qt os S q i = false := by unfold off; simp [h]
theorem off_or {S : Nat → Bool} {q i : Nat} (h : S i = true) : off qt os S q i = true ∨ earlyB qt os S q i = true := by
 unfold off earlyB
 rw [h]
 cases effB qt os i
 ·exact .inl rfl
 ·by_cases hq : i < q
  ·exact .inl (by simp [hq])
  ·exact .inr (by simp; omega)
theorem early_of {S : Nat → Bool} {q e : Nat} (h : earlyB qt os S q e = true) : S e = true ∧ q ≤ e ∧ ∃ x, os[e]? = some x ∧ isEff qt x.k = true := by
 unfold earlyB effB at h
 simp only [Bool.and_eq_true, decide_eq_true_eq] at h
 obtain ⟨h1, h2, h3⟩ := h
 cases hx : os[e]? with
 | none => rw [hx] at h2; cases h2
 | some x => rw [hx] at h2; exact ⟨h1, h3, x, rfl, h2⟩
theorem Up.early {S : Nat → Bool} {q e : Nat} (U : Up P qt ops os S q) (h : earlyB qt os S q e = true) : q < e ∧ S q = false ∧ ∃ y, os[q]? = some y ∧ isEff qt y.k = true := by
 obtain ⟨h1, h2, x, hx, _⟩ := early_of h
 have hel := (List.getElem?_eq_some_iff.1 hx).1
 have hy : os[q]? = some os[q] := List.getElem?_eq_getElem (by omega)
 obtain ⟨s1, s2⟩ := U.stop _ hy
 refine ⟨?_, s2, _, hy, s1⟩
 rcases Nat.lt_or_ge q e with h3 | h3
 ·exact h3
 ·have : q = e := by omega
  subst this
  rw [h1] at s2
  cases s2
theorem loose_of {ol : List Oper} {j : Nat} {y : IOp} (h : looseOk qt ol os B j = true) (hy : os[j]? = some y) : isAlloc y.k = true ∧ y.g = none ∧ (zOk y.k = true ∧ (opnds y.k).all opdOK = true) ∧ ∃ d, y.dst = some d ∧
  ∀ r o x, r ≠ j → ol[r]? = some o → os[r]? = some x → touches d o x = true → (r < j → ord B r j = true) ∧ (j < r → ∀ e y, os[e]? = some y → isEff qt y.k = true → e < j → ord B e r = true) := by
 unfold looseOk at h
 rw [hy] at h
 simp only [Bool.and_eq_true] at h
 obtain ⟨⟨⟨h1, h2⟩, h3⟩, h4⟩ := h
 refine ⟨h1, by simpa using h2, h3, ?_⟩
 cases hd : y.dst with
 | none => rw [hd] at h4; cases h4
 | some d =>
  rw [hd] at h4
  refine ⟨d, rfl, fun r o x hr ho hx ht => ?_⟩
  have hrl := (List.getElem?_eq_some_iff.1 hx).1
  have h5 := List.all_eq_true.1 h4 r (List.mem_range.2 hrl)
  have hb : (r == j) = false := by simp [hr]
  rw [ho, hx] at h5
  simp only [hb, Bool.false_or, ht, Bool.not_true] at h5
  constructor
  ·intro hlt; rw [if_pos hlt] at h5; exact h5
  ·intro hlt e y' hy' hey he
   rw [if_neg (by omega)] at h5
   have h6 := List.all_eq_true.1 h5 e (List.mem_range.2 he)
   rw [effB_of hy', hey] at h6
   simpa using h6
theorem Reg.done (R : Reg P qt Γ ops os B fr hp vl) {S : Nat → Bool} {q : Nat} (U : Up P qt ops os S q) {i : Nat} {o : Oper} (N : Next ops S i o) {j : Nat} (hj : ord B j i = true) : S j = true :=
 ahead_done R.bf U.closed i o N.is N.edges j hj
theorem Reg.later (R : Reg P qt Γ ops os B fr hp vl) {S : Nat → Bool} {q : Nat} (U : Up P qt ops os S q) {i : Nat} {o : Oper} (N : Next ops S i o) {j : Nat} {x : IOp} (hx : os[j]? = some x) (hj : ord B i j = true) : S j = false := by
 cases hS : S j with
 | false => rfl
 | true =>
  have hjl : j < ops.toList.length := by rw [R.len]; exact (List.getElem?_eq_some_iff.1 hx).1
  have hoj : ops.toList[j]? = some ops.toList[j] := List.getElem?_eq_getElem hjl
  have := ahead_done R.bf U.closed j _ hoj (U.closed j _ hoj hS) i hj
  rw [N.not] at this
  cases this
theorem Reg.loose (R : Reg P qt Γ ops os B fr hp vl) {S : Nat → Bool} {q e : Nat} (U : Up P qt ops os S q) (h : earlyB qt os S q e = true) : looseOk qt ops.toList os B e = true := by
 obtain ⟨h1, h2, x, hx, hex⟩ := early_of h
 obtain ⟨h3, h4, y, hy, hey⟩ := U.early h
 have hp0 := pair_of R.chk hy hx h3
 unfold pairOk at hp0
 simp only [hey, hex, Bool.and_self, Bool.not_true, Bool.false_or, Bool.or_eq_true, Bool.and_eq_true] at hp0
 rcases hp0 with hp0 | hp0
 ·have hjl : e < ops.toList.length := by rw [R.len]; exact (List.getElem?_eq_some_iff.1 hx).1
  have hoj : ops.toList[e]? = some ops.toList[e] := List.getElem?_eq_getElem hjl
  have := ahead_done R.bf U.closed e _ hoj (U.closed e _ hoj h1) q hp0
  rw [h4] at this
  cases this
 ·exact hp0.2
theorem Reg.notouch (R : Reg P qt Γ ops os B fr hp vl) {S : Nat → Bool} {q e : Nat} (U : Up P qt ops os S q) (h : earlyB qt os S q e = true) {i : Nat} {o : Oper} (N : Next ops S i o) {x y : IOp} (hx : os[i]? = some x)
  (hy : os[e]? = some y) {d : Nat} (hd : y.dst = some d) : touches d o x = false := by
 cases ht : touches d o x with
 | false => rfl
 | true =>
  obtain ⟨h1, h2, _⟩ := early_of h
  obtain ⟨h3, h4, z, hz, hez⟩ := U.early h
  obtain ⟨_, _, _, d', hd', hall⟩ := loose_of (R.loose U h) hy
  rw [hd] at hd'
  cases hd'
  have hne : i ≠ e := by intro q; subst q; rw [N.not] at h1; cases h1
  obtain ⟨g1, g2⟩ := hall i o x hne N.is hx ht
  rcases Nat.lt_or_ge i e with hlt | hge
  ·have hjl : e < ops.toList.length := by rw [R.len]; exact (List.getElem?_eq_some_iff.1 hy).1
   have hoj : ops.toList[e]? = some ops.toList[e] := List.getElem?_eq_getElem hjl
   have := ahead_done R.bf U.closed e _ hoj (U.closed e _ hoj h1) i (g1 hlt)
   rw [N.not] at this
   cases this
  ·have := R.done U N (g2 (by omega) q z hz hez h3)
   rw [h4] at this
   cases this
theorem Reg.frame (R : Reg P qt Γ ops os B fr hp vl) {S : Nat → Bool} {q : Nat} (U : Up P qt ops os S q) {i : Nat} {o : Oper} (N : Next ops S i o) {x : IOp} (hx : os[i]? = some x) {d : Nat} (hd : d ∈ reads x) :
  (lastV os vl (off qt os S q) (fr 0) os.length).getD d undef = (fr i).getD d undef := by
 have hil := (List.getElem?_eq_some_iff.1 hx).1
 have h1 := (last_congr (os := os) (vl := vl) (S := off qt os S q) (S' := fun j => decide (j < i)) (t := fr 0) (x := d) os.length fun j hj hdst => ?_).1
 ·rw [h1, last_lt i os.length, Nat.min_eq_right (by omega), walk_fr R.walk i (by omega)]
 ·have hy : os[j]? = some os[j] := List.getElem?_eq_getElem hj
  rw [hy] at hdst
  simp only [Option.bind_some] at hdst
  rcases Nat.lt_trichotomy j i with hji | hji | hji
  ·have hp0 := pair_of R.chk hy hx hji
   unfold pairOk at hp0
   have hcl : clash os[j] x = true := by unfold clash; rw [hdst]; simp [hd]
   simp only [hcl, Bool.not_true, Bool.false_and, Bool.or_false] at hp0
   rcases off_or (qt := qt) (os := os) (q := q) (R.done U N hp0) with h2 | h2
   ·simp [hji, h2]
   ·have := R.notouch U h2 N hx hy hdst
    unfold touches at this
    have hc : (reads x).contains d = true := by simpa using hd
    rw [hc] at this
    simp at this
  ·subst hji; simp [off_false N.not]
  ·have hp0 := pair_of R.chk hx hy hji
   unfold pairOk at hp0
   have hcl : clash x os[j] = true := by unfold clash; rw [hdst]; simp [hd]
   simp only [hcl, Bool.not_true, Bool.false_and, Bool.or_false] at hp0
   have : ¬ j < i := by omega
   simp [this, off_false (R.later U N hy hp0)]
theorem ev_of {t t' : Fr} {x : IOp} (hf : ∀ d ∈ reads x, t.getD d undef = t'.getD d undef) : (∀ o ∈ opnds x.k, ev t o = ev t' o) ∧ want t x.g = want t' x.g := by
 constructor
 ·intro o ho
  cases o with
  | tmp d => exact hf d (by unfold reads; exact List.mem_append_left _ (List.mem_filterMap.2 ⟨_, ho, rfl⟩))
  | _ => rfl
 ·unfold want
  cases hg : x.g with
  | none => rfl
  | some p => dsimp only; rw [hf p.1 (by unfold reads; rw [hg]; simp)]
theorem Reg.eval (R : Reg P qt Γ ops os B fr hp vl) {S : Nat → Bool} {q : Nat} (U : Up P qt ops os S q) {i : Nat} {o : Oper} (N : Next ops S i o) {x : IOp} (hx : os[i]? = some x) (hw : want (fr i) x.g = true) (he : isEff qt x.k = false) :
    opA Γ x.k (fr i) (hp q) = some (vl i, hp q) := by
  have h0 := R.walk.yes i x hx hw
  have hs := R.same hx he
  rw [hs] at h0
  cases hf : heapFree x.k with
  | true => exact (opA_free hf h0).2
  | false =>
    have hil := (List.getElem?_eq_some_iff.1 hx).1
    rcases Nat.lt_or_ge i q with hiq | hiq
    · have up : ∀ m, i ≤ m → m ≤ q → opA Γ x.k (fr i) (hp m) = some (vl i, hp m) := by
        intro m
        induction m with
        | zero => intro h1 _; have : i = 0 := by omega
                  subst this; exact h0
        | succ m ih =>
          intro h1 h2
          by_cases hm : i = m + 1
          · subst hm; exact h0
          have ih := ih (by omega) (by omega)
          have hml : m < os.length := by have := U.le; omega
          have hy : os[m]? = some os[m] := List.getElem?_eq_getElem hml
          cases hey : isEff qt os[m].k with
          | false => rw [R.same hy hey]; exact ih
          | true =>
            have hmi : i ≠ m := by intro h; subst h; rw [hy] at hx; cases hx; rw [he] at hey; cases hey
            have hSm : S m = true := U.lt m _ hy hey (by omega)
            have hno : ord B i m = false := by
              cases ho : ord B i m with
              | false => rfl
              | true => have := R.later U N hy ho; rw [hSm] at this; cases this
            cases hac : isAlloc os[m].k && !isCall x.k with
            | true =>
              simp only [Bool.and_eq_true, Bool.not_eq_true'] at hac
              cases hwm : want (fr m) os[m].g with
              | true =>
                obtain ⟨b, hb⟩ := alloc_opA hac.1 (R.walk.yes m _ hy hwm)
                rw [hb]
                exact more_opA he hac.2 ih
              | false => rw [(R.walk.no m _ hy hwm).2]; exact ih
            | false =>
              have hcr : crossP qt os B i m = true := by
                unfold crossP
                rw [hx, hy]
                simp only [he, hf, hey, hno, hac, show i < m from by omega, if_true]
                rfl
              obtain ⟨h2', hh⟩ := R.cross i m x hx hcr hw
              rw [if_pos (by omega)] at hh
              have := quiet_opA R.qu he hh
              rw [this] at hh
              exact hh
      exact up q (by omega) (Nat.le_refl q)
    · have down : ∀ k m, m + k = i → q ≤ m → opA Γ x.k (fr i) (hp m) = some (vl i, hp m) := by
        intro k
        induction k with
        | zero => intro m h1 _; have : m = i := by omega
                  subst this; exact h0
        | succ k ih =>
          intro m h1 h2
          have ih := ih (m + 1) (by omega) (by omega)
          have hy : os[m]? = some os[m] := List.getElem?_eq_getElem (by omega)
          cases hey : isEff qt os[m].k with
          | false => rw [R.same hy hey] at ih; exact ih
          | true =>
            have hmi : ¬ i < m := by omega
            have hcr : crossP qt os B i m = true := by
              unfold crossP
              rw [hx, hy]
              simp only [he, hf, hey, hmi, if_false, Bool.not_false, Bool.true_and, Bool.or_eq_true]
              cases hSm : S m with
              | false =>
                refine .inl ?_
                cases ho : ord B m i with
                | false => rfl
                | true => have := R.done U N ho; rw [hSm] at this; cases this
              | true =>
                have hea : earlyB qt os S q m = true := by unfold earlyB; rw [hSm, effB_of hy, hey]; simp; omega
                obtain ⟨h3, h4, z, hz, hez⟩ := U.early hea
                refine .inr (List.any_eq_true.2 ⟨q, List.mem_range.2 h3, ?_⟩)
                rw [effB_of hz, hez]
                have o1 : ord B q m = false := by
                  cases ho : ord B q m with
                  | false => rfl
                  | true =>
                    have hjl : m < ops.toList.length := by rw [R.len]; omega
                    have hoj : ops.toList[m]? = some ops.toList[m] := List.getElem?_eq_getElem hjl
                    have := ahead_done R.bf U.closed m _ hoj (U.closed m _ hoj hSm) q ho
                    rw [h4] at this
                    cases this
                have o2 : ord B q i = false := by
                  cases ho : ord B q i with
                  | false => rfl
                  | true => have := R.done U N ho; rw [h4] at this; cases this
                rw [o1, o2]
                rfl
            obtain ⟨h2', hh⟩ := R.cross i m x hx hcr hw
            rw [if_neg (by omega)] at hh
            have := quiet_opA R.qu he hh
            rw [this] at hh
            exact hh
      exact down (i - q) q (by omega) (Nat.le_refl q)
theorem Reg.effAt (R : Reg P qt Γ ops os B fr hp vl) {S : Nat → Bool} {q : Nat} (U : Up P qt ops os S q) {i : Nat} {o : Oper} (N : Next ops S i o) {x : IOp} (hx : os[i]? = some x) (he : isEff qt x.k = true) :
  i = q ∨ (q < i ∧ looseOk qt ops.toList os B i = true ∧ S q = false) := by
 have hil := (List.getElem?_eq_some_iff.1 hx).1
 have hqi : q ≤ i := by
  rcases Nat.lt_or_ge i q with h1 | h1
  ·have := U.lt i x hx he h1; rw [N.not] at this; cases this
  ·exact h1
 by_cases hq : i = q
 ·exact .inl hq
 ·have hlt : q < i := by omega
  have hy : os[q]? = some os[q] := List.getElem?_eq_getElem (by omega)
  obtain ⟨s1, s2⟩ := U.stop _ hy
  have hp0 := pair_of R.chk hy hx hlt
  unfold pairOk at hp0
  simp only [s1, he, Bool.and_self, Bool.not_true, Bool.false_or, Bool.or_eq_true, Bool.and_eq_true] at hp0
  rcases hp0 with hp0 | hp0
  ·have := R.done U N hp0
   rw [s2] at this
   cases this
  ·exact .inr ⟨hlt, hp0.2, s2⟩
end
end Go.Am
namespace Go.Am
set_option linter.all false
variable {P : Program} {ι : Map} {h : Heap} {w w' : World} {t : Fr} {a : Act} {qt : List Nat}
variable {Γ : Env} {ops : Array Oper} {os : List IOp} {B : List Nat} {fr : Nat → Fr} {hp : Nat → Heap} {vl : Nat → Value}
theorem below0_of {n : Nat} {v : Value} (h : below0 0 v = true) : below0 n v = true := by
 unfold below0 at h ⊢
 split at h <;> first | rfl | (simp at h; done) | skip
theorem belowC_of {n : Nat} {v : Value} (h : belowC 0 v = true) : belowC n v = true := by
 cases v
 case func f a b =>
  simp only [belowC, Bool.and_eq_true] at h ⊢
  exact ⟨List.all_eq_true.2 fun x hx => below0_of (List.all_eq_true.1 h.1 x hx), List.all_eq_true.2 fun x hx => below0_of (List.all_eq_true.1 h.2 x hx)⟩
 all_goals (simp only [belowC] at h ⊢; exact below0_of h)
theorem all_of {n : Nat} {z : List Value} (h : z.all (belowC 0) = true) : z.all (belowC n) = true :=
 List.all_eq_true.2 fun x hx => belowC_of (List.all_eq_true.1 h x hx)
theorem fillA_all {p : Value → Bool} : ∀ (l : List (Nat × Nat × Value)) (z r : List Value), fillA z l = some r → z.all p = true → (∀ q ∈ l, noTup q.2.2 = true → q.2.2.cells.toList.all p = true) → r.all p = true
 | [], z, r, e, hz, _ => by cases e; exact hz
 | (o, n, v) :: l, z, r, e, hz, hl => by
  simp only [fillA] at e
  split at e
  ·rename_i hc
   refine fillA_all l _ r e ?_ fun q hq => hl q (List.mem_cons_of_mem _ hq)
   have hv := hl (o, n, v) (by simp) hc.1
   rw [List.all_eq_true] at hz hv ⊢
   intro x hx
   unfold setR at hx
   simp only [List.mem_append] at hx
   rcases hx with hx | hx | hx
   ·exact hz x (List.mem_of_mem_take hx)
   ·exact hv x hx
   ·exact hz x (List.mem_of_mem_drop hx)
  ·cases e
inductive Names : Nat → Value → Nat → Value → Prop
 | ptr (n m : Nat) : Names n (.pointer (some ⟨n, 0, none⟩)) m (.pointer (some ⟨m, 0, none⟩))
 | sl (n m len cap : Nat) : Names n (.slice (some ⟨n, 0, none⟩) len cap) m (.slice (some ⟨m, 0, none⟩) len cap)
theorem alloc_any {Γ : Env} {k : IK} (hk : isAlloc k = true) (hz : zOk k = true) {v : Value} {h' : Heap} (e : opA Γ k t h = some (v, h')) :
  ∃ cells, h' = h ++ [some ⟨.fix, cells⟩] ∧ (∀ h2, ∃ v2, opA Γ k t h2 = some (v2, h2 ++ [some ⟨.fix, cells⟩]) ∧ Names h.length v h2.length v2) ∧
   ∀ n, (∀ x ∈ opnds k, noTup (ev t x) = true → (ev t x).cells.toList.all (belowC n) = true) → cells.all (belowC n) = true := by
 cases k <;> first | (cases hk; done) | skip
 case box x =>
  simp only [opA] at e
  split at e
  ·rename_i hn
   cases e
   exact ⟨_, rfl, fun h2 => ⟨_, by simp only [opA, hn, if_true], .ptr _ _⟩, fun n hb => hb x (by simp [opnds]) hn⟩
  ·cases e
 case alloc z =>
  simp only [opA] at e
  cases e
  exact ⟨_, rfl, fun h2 => ⟨_, rfl, .ptr _ _⟩, fun n _ => all_of hz⟩
 case mkrow z len ps =>
  simp only [opA] at e
  split at e
  ·rename_i l hl
   cases e
   refine ⟨_, rfl, fun h2 => ⟨_, by simp only [opA, hl], .sl _ _ _ _⟩, fun n hb => fillA_all _ _ _ hl (all_of hz) fun q hq hn => ?_⟩
   obtain ⟨p, hp, rfl⟩ := List.mem_map.1 hq
   exact hb _ (by simp only [opnds]; exact List.mem_map.2 ⟨p, hp, rfl⟩) hn
  ·cases e
 case mkslice esz eby z len cap =>
  simp only [opA] at e
  split at e
  ·rename_i l c hl hc
   split at e
   ·rename_i hcond
    cases e
    refine ⟨_, rfl, fun h2 => ⟨_, by simp only [opA, hl, hc]; rw [if_pos hcond], .sl _ _ _ _⟩, fun n _ => ?_⟩
    rw [List.all_eq_true]
    intro x hx
    obtain ⟨y, hy, hxy⟩ := List.mem_flatten.1 hx
    rw [List.mem_replicate] at hy
    rw [hy.2] at hxy
    exact List.all_eq_true.1 (all_of (n := n) hz) x hxy
   ·cases e
  ·cases e
theorem Names.vr {n m : Nat} {v v2 v' : Value} (hn : Names n v m v2) {ι1 ι' : Map} {l : Loc} (h1 : VR ι1 v2 v') (h2 : ι1 m = some l) (h3 : ι' n = some l) : VR ι' v v' := by
 cases hn with
 | ptr => cases h1 with
  | va h => cases h with
   | vc h => cases h with
    | v0 h => cases h with
     | ptr hl => rw [h2] at hl; cases hl; exact .v0 (.ptr h3)
 | sl => cases h1 with
  | va h => cases h with
   | vc h => cases h with
    | v0 h => cases h with
     | sl hl hc => rw [h2] at hl; cases hl; exact .v0 (.sl h3 hc)
     | sl0 hl => exact .v0 (.sl0 h3)
def mask (D : Nat → Bool) (l : List Value) : List Value := (List.range l.length).map fun d => if D d then undef else l.getD d undef
theorem mask_length {D : Nat → Bool} {l : List Value} : (mask D l).length = l.length := by simp [mask]
theorem mask_getD {D : Nat → Bool} {l : List Value} {d : Nat} : (mask D l).getD d undef = if D d then undef else l.getD d undef := by
 unfold mask
 by_cases hd : d < l.length
 ·simp [List.getD, List.getElem?_map, List.getElem?_range hd]
 ·have h1 : l.length ≤ d := by omega
  simp [List.getD, List.getElem?_eq_none (l := List.range l.length) (by simpa using h1), List.getElem?_eq_none h1]
theorem F2.of_getD {R : Value → Value → Prop} {x y : Value} : ∀ {l m : List Value}, l.length = m.length → (∀ d, R (l.getD d x) (m.getD d y)) → F2 R l m
 | [], [], _, _ => .nil
 | a :: l, b :: m, hl, hd => .cons (by simpa using hd 0) (F2.of_getD (by simpa using hl) fun d => by simpa using hd (d + 1))
 | [], _ :: _, hl, _ => by simp at hl
 | _ :: _, [], hl, _ => by simp at hl
structure FrX (ι : Map) (D : Nat → Bool) (t l : List Value) : Prop where
 len : t.length = l.length
 at_ : ∀ d, D d = false → VR ι (t.getD d undef) (l.getD d undef)
theorem FrX.masked {D : Nat → Bool} {t l : List Value} (hf : FrX ι D t l) : F2 (VR ι) (mask D t) (mask D l) := by
 refine F2.of_getD (x := undef) (y := undef) (by rw [mask_length, mask_length, hf.len]) fun d => ?_
 rw [mask_getD, mask_getD]
 cases hd : D d with
 | true => exact VR.undef ι
 | false => exact hf.at_ d hd
theorem FrX.mono {ι' : Map} {D : Nat → Bool} {t l : List Value} (hf : FrX ι D t l) (s : Sub ι ι') : FrX ι' D t l := ⟨hf.len, fun d hd => (hf.at_ d hd).mono s⟩
theorem put_length {t : Fr} {d : Option Nat} {v : Value} : (put t d v).length = t.length := by cases d <;> simp [put]
theorem put_at {t : Fr} {d : Nat} {v : Value} : (put t (some d) v).getD d undef = if d < t.length then v else undef := by
 simp only [put, List.getD, List.getElem?_set, if_true]
 split
 ·rfl
 ·rfl
theorem act_put {dst : Option Tmp} {v : Value} : (a.put dst v).tmps.toList = put a.tmps.toList dst v := by
 cases dst with
 | none => rfl
 | some d => simp only [put, Act.put, Array.toList_setIfInBounds]
theorem FrX.put {D : Nat → Bool} {t l : List Value} (hf : FrX ι D t l) {dst : Option Nat} {v v' : Value} (hv : VR ι v v') : FrX ι D (put t dst v) (put l dst v') := by
 refine ⟨by rw [put_length, put_length, hf.len], fun d hd => ?_⟩
 by_cases hq : dst = some d
 ·subst hq
  rw [put_at, put_at, hf.len]
  split
  ·exact hv
  ·exact VR.undef ι
 ·rw [put_getD hq, put_getD hq]
  exact hf.at_ d hd
end Go.Am
namespace Go.Am
set_option linter.all false
variable {P : Program} {ι : Map} {h : Heap} {w w' : World} {t : Fr} {a : Act} {qt : List Nat}
variable {Γ : Env} {ops : Array Oper} {os : List IOp} {B : List Nat} {fr : Nat → Fr} {hp : Nat → Heap} {vl : Nat → Value}
def sel (listed : Array Bool) : Nat → Bool := fun i => listed.getD i false
theorem sel_set {listed : Array Bool} {i : Nat} (hi : i < listed.size) : sel (listed.setIfInBounds i true) = fun j => sel listed j || j == i := by
 funext j
 unfold sel
 by_cases hj : i = j
 ·subst hj
  simp [hi]
 ·rw [getD_set_ne false hj]
  have : (j == i) = false := by simp; omega
  simp [this]
theorem edge_mem {o : Oper} {d : Nat} : d ∈ edgesOf o ↔ ∃ e ∈ o.after, Region.binds .any e = true ∧ e.on = d := by
 unfold edgesOf
 simp [and_assoc]
def maskB (qt : List Nat) (os : List IOp) (S : Nat → Bool) (q : Nat) : Nat → Bool := fun d => (List.range os.length).any fun e => earlyB qt os S q e && (os[e]?).bind (·.dst) == some d
theorem maskB_true {S : Nat → Bool} {q d : Nat} (h : maskB qt os S q d = true) : ∃ e y, earlyB qt os S q e = true ∧ os[e]? = some y ∧ y.dst = some d := by
 obtain ⟨e, _, he⟩ := List.any_eq_true.1 h
 simp only [Bool.and_eq_true, beq_iff_eq] at he
 cases hy : os[e]? with
 | none => rw [hy] at he; cases he.2
 | some y => rw [hy] at he; exact ⟨e, y, he.1, hy, he.2⟩
theorem maskB_of {S : Nat → Bool} {q d e : Nat} {y : IOp} (h : earlyB qt os S q e = true) (hy : os[e]? = some y) (hd : y.dst = some d) : maskB qt os S q d = true :=
 List.any_eq_true.2 ⟨e, List.mem_range.2 (List.getElem?_eq_some_iff.1 hy).1, by simp [h, hy, hd]⟩
structure Early (os : List IOp) (hp : Nat → Heap) (vl : Nat → Value) (w0 : World) (S : Nat → Bool) (ι : Map) (h : Heap) (a : Act) (w : World) (e d : Nat) (cells : List Value) (l : Loc) : Prop where
 is : ∃ x, os[e]? = some x ∧ x.dst = some d
 push : hp (e + 1) = hp e ++ [some ⟨.fix, cells⟩]
 val : d < a.tmps.toList.length → ∀ ι' : Map, ι' (hp e).length = some l → VR ι' (vl e) (a.tmps.toList.getD d undef)
 fits : Fits ι w .fix cells l
 new : w0.heap.size ≤ l.b
 lt : l.b < w.heap.size
 apart : ∀ (B : Nat) (b : Blk) (l2 : Loc), h[B]? = some (some b) → ι B = some l2 → l2.b ≠ l.b
 nt : ∀ j y, e < j → S j = true → os[j]? = some y → y.dst ≠ some d
theorem Fits.step {K : Kind} {cells : List Value} {l : Loc} {ι1 : Map} {w1 : World} (F : Fits ι w K cells l) (s : Sub ι ι1) (hb : w1.heap[l.b]? = w.heap[l.b]?) : Fits ι1 w1 K cells l := by
 obtain ⟨f1, f2, f3, f4, c, e, f, f5, f6, f7, f8⟩ := F
 exact ⟨f1, f2, f3, f4, c, e, f, hb.trans f5, f6, f7, f8.mono fun _ _ h => h.mono s⟩
theorem Early.step {w0 : World} {S S' : Nat → Bool} {ι1 : Map} {h1 : Heap} {a1 : Act} {w1 : World} {e d : Nat} {cells : List Value} {l : Loc} (Y : Early os hp vl w0 S ι h a w e d cells l) (E : Ext ι h w ι1 h1 w1)
  (hlen : a1.tmps.toList.length = a.tmps.toList.length) (hat : a1.tmps.toList.getD d undef = a.tmps.toList.getD d undef) (hnt : ∀ j y, e < j → S' j = true → S j = false → os[j]? = some y → y.dst ≠ some d) :
  Early os hp vl w0 S' ι1 h1 a1 w1 e d cells l where
 is := Y.is
 push := Y.push
 val := fun hd => by rw [hat]; exact Y.val (by rw [← hlen]; exact hd)
 fits := Y.fits.step E.sub (E.frame _ Y.lt fun B blk l2 h1 _ h2 => Y.apart B blk l2 h1 h2)
 new := Y.new
 lt := Nat.lt_of_lt_of_le Y.lt E.size
 apart := fun B b l2 h1 h2 => by
  rcases E.imgR B b l2 h1 h2 with q | ⟨B0, b0, l0, q1, q2, q3⟩
  ·have := Y.lt; omega
  ·rw [← q3]; exact Y.apart B0 b0 l0 q1 q2
 nt := fun j y hj hS hy => by
  cases hs : S j with
  | true => exact Y.nt j y hj hs hy
  | false => exact hnt j y hj hS hs hy
structure St (qt : List Nat) (os : List IOp) (fr : Nat → Fr) (hp : Nat → Heap) (vl : Nat → Value) (ι0 : Map) (h0 : Heap) (w0 : World) (S : Nat → Bool) (q : Nat) (ι : Map) (loc : Nat → Loc) (a : Act) (w : World) : Prop where
 frx : FrX ι (maskB qt os S q) (lastV os vl (off qt os S q) (fr 0) os.length) a.tmps.toList
 defers : a.defers = []
 hr : HR ι (hp q) w
 ext : Ext ι0 h0 w0 ι (hp q) w
 ear : ∀ e, earlyB qt os S q e = true → ∃ d cells, Early os hp vl w0 S ι (hp q) a w e d cells (loc e)
 sep : ∀ e e', earlyB qt os S q e = true → earlyB qt os S q e' = true → e ≠ e' → (loc e).b ≠ (loc e').b
structure Up0 (P : Program) (qt : List Nat) (ops : Array Oper) (os : List IOp) (S : Nat → Bool) (q : Nat) : Prop where
 closed : ∀ i o, ops.toList[i]? = some o → S i = true → ∀ d ∈ edgesOf o, S d = true
 lt : ∀ e x, os[e]? = some x → isEff qt x.k = true → e < q → S e = true
 le : q ≤ os.length
theorem off_next_quiet {S : Nat → Bool} {q : Nat} (h : effB qt os q = false) : off qt os S (q + 1) = off qt os S q := by
 funext i
 unfold off
 by_cases hi : i = q
 ·subst hi; simp [h]
 ·have : decide (i < q + 1) = decide (i < q) := by by_cases g : i < q <;> simp <;> omega
  rw [this]
theorem early_next_quiet {S : Nat → Bool} {q : Nat} (h : effB qt os q = false) : earlyB qt os S (q + 1) = earlyB qt os S q := by
 funext i
 unfold earlyB
 by_cases hi : i = q
 ·subst hi; simp [h]
 ·have : decide (q + 1 ≤ i) = decide (q ≤ i) := by by_cases g : q ≤ i <;> simp <;> omega
  rw [this]
theorem adv (R : Reg P qt Γ ops os B fr hp vl) {ι0 : Map} {h0 : Heap} {w0 : World} {S : Nat → Bool} {loc : Nat → Loc} {a : Act} {w : World} :
  ∀ (k q : Nat) (ι : Map), q + k = os.length → Up0 P qt ops os S q → St qt os fr hp vl ι0 h0 w0 S q ι loc a w → ∃ q' ι', Up P qt ops os S q' ∧ St qt os fr hp vl ι0 h0 w0 S q' ι' loc a w
 | 0, q, ι, hk, U, Z => ⟨q, ι, ⟨U.closed, U.lt, fun x hx => by have := (List.getElem?_eq_some_iff.1 hx).1; omega, U.le⟩, Z⟩
 | k + 1, q, ι, hk, U, Z => by
  have hx : os[q]? = some os[q] := List.getElem?_eq_getElem (by omega)
  cases he : isEff qt os[q].k with
  | false =>
   have hb : effB qt os q = false := by rw [effB_of hx]; exact he
   refine adv R k (q + 1) ι (by omega) ⟨U.closed, fun e x hx' hex hlt => ?_, by omega⟩ ?_
   ·by_cases hq : e = q
    ·subst hq; rw [hx] at hx'; cases hx'; rw [he] at hex; cases hex
    ·exact U.lt e x hx' hex (by omega)
   ·have e1 := off_next_quiet (S := S) hb
    have e2 := early_next_quiet (S := S) hb
    have e3 : maskB qt os S (q + 1) = maskB qt os S q := by unfold maskB; rw [e2]
    have e4 : hp (q + 1) = hp q := R.same hx he
    exact ⟨by rw [e1, e3]; exact Z.frx, Z.defers, by rw [e4]; exact Z.hr, by rw [e4]; exact Z.ext, by rw [e2, e4]; exact Z.ear, by rw [e2]; exact Z.sep⟩
  | true =>
   have hb : effB qt os q = true := by rw [effB_of hx]; exact he
   cases hS : S q with
   | false => exact ⟨q, ι, ⟨U.closed, U.lt, fun x hx' => by rw [hx] at hx'; cases hx'; exact ⟨he, hS⟩, U.le⟩, Z⟩
   | true =>
    have hq : earlyB qt os S q q = true := by unfold earlyB; simp [hS, hb]
    obtain ⟨d, cells, Y⟩ := Z.ear q hq
    obtain ⟨x, hx', hd⟩ := Y.is
    rw [hx] at hx'
    cases hx'
    have hdst : (os[q]?).bind (·.dst) = some d := by rw [hx]; exact hd
    let ι' := upd ι (hp q).length (loc q)
    have sub : Sub ι ι' := Z.hr.subU _
    have ear' : ∀ e, earlyB qt os S (q + 1) e = true → earlyB qt os S q e = true ∧ e ≠ q := by
     intro e h
     unfold earlyB at h ⊢
     simp only [Bool.and_eq_true, decide_eq_true_eq] at h ⊢
     exact ⟨⟨h.1, h.2.1, by omega⟩, by omega⟩
    have oq : off qt os S q q = false := by unfold off; simp [hb]
    have e1 : off qt os S (q + 1) = fun j => off qt os S q j || j == q := by
     funext j
     by_cases hj : j = q
     ·subst hj; unfold off; simp [hS]
     ·have hjb : (j == q) = false := by simp [hj]
      rw [hjb, Bool.or_false]
      unfold off
      have : decide (j < q + 1) = decide (j < q) := by by_cases g : j < q <;> simp <;> omega
      rw [this]
    have hframe : lastV os vl (off qt os S (q + 1)) (fr 0) os.length = put (lastV os vl (off qt os S q) (fr 0) os.length) (some d) (vl q) := by
     rw [e1, ← hd]
     refine last_add oq hx os.length (by omega) fun j hj1 hj2 hSj x hxd => ?_
     rw [hd] at hxd
     cases hxd
     have hy : os[j]? = some os[j] := List.getElem?_eq_getElem hj2
     rw [hy]
     exact Y.nt j _ hj1 (off_true hSj) hy
    have hlenF : (lastV os vl (off qt os S q) (fr 0) os.length).length = a.tmps.toList.length := Z.frx.len
    have hE : Ext ι0 h0 w0 ι' (hp (q + 1)) w := by
     rw [Y.push]
     refine ⟨Z.ext.sub.trans sub, Z.ext.size, Z.ext.frame, ?_, Z.ext.os, Z.ext.tape, Z.ext.output, ?_⟩
     ·intro B blk l hB hr hl
      rw [get_push] at hB
      split at hB
      ·rename_i hq2; subst hq2; rw [show ι' (hp q).length = some (loc q) from upd_same _ _] at hl; cases hl; exact .inl Y.new
      ·rename_i hq2; rw [show ι' B = ι B from if_neg hq2] at hl; exact Z.ext.imgs B blk l hB hr hl
     ·intro B blk l hB hl
      rw [get_push] at hB
      split at hB
      ·rename_i hq2; subst hq2; rw [show ι' (hp q).length = some (loc q) from upd_same _ _] at hl; cases hl; exact .inl Y.new
      ·rename_i hq2; rw [show ι' B = ι B from if_neg hq2] at hl; exact Z.ext.imgR B blk l hB hl
    refine adv R k (q + 1) ι' (by omega) ⟨U.closed, fun e x hx' hex hlt => ?_, by omega⟩ ⟨?_, Z.defers, ?_, hE, ?_, ?_⟩
    ·by_cases hq2 : e = q
     ·subst hq2; exact hS
     ·exact U.lt e x hx' hex (by omega)
    ·rw [hframe]
     refine ⟨by rw [put_length]; exact hlenF, fun d' hd' => ?_⟩
     by_cases hdd : d' = d
     ·subst hdd
      rw [put_at, hlenF]
      split
      ·rename_i hlt
       exact Y.val hlt ι' (upd_same _ _)
      ·rename_i hge
       rw [show a.tmps.toList.getD d' undef = undef by unfold List.getD; rw [List.getElem?_eq_none (Nat.le_of_not_lt hge)]; rfl]
       exact VR.undef ι'
     ·rw [put_getD (by intro q; cases q; exact hdd rfl)]
      refine (Z.frx.at_ d' ?_).mono sub
      cases hm : maskB qt os S q d' with
      | false => rfl
      | true =>
       obtain ⟨e, y, h1, h2, h3⟩ := maskB_true hm
       by_cases heq : e = q
       ·subst heq
        rw [hx] at h2
        cases h2
        rw [hd] at h3
        cases h3
        exact absurd rfl hdd
       ·have : earlyB qt os S (q + 1) e = true := by
         unfold earlyB at h1 ⊢
         simp only [Bool.and_eq_true, decide_eq_true_eq] at h1 ⊢
         exact ⟨h1.1, h1.2.1, by omega⟩
        rw [maskB_of this h2 h3] at hd'
        cases hd'
    ·rw [Y.push]
     exact Z.hr.add (fun B blk l0 h1 h2 => ⟨Y.apart B blk l0 h1 h2, rfl⟩) (Y.fits.step (w1 := w) sub rfl)
    ·intro e h
     obtain ⟨h1, h2⟩ := ear' e h
     obtain ⟨d2, c2, Y2⟩ := Z.ear e h1
     refine ⟨d2, c2, ⟨Y2.is, Y2.push, Y2.val, Y2.fits.step sub rfl, Y2.new, Y2.lt, ?_, Y2.nt⟩⟩
     intro B b l2 hB hl
     rw [Y.push, get_push] at hB
     split at hB
     ·rename_i hq2; subst hq2; rw [show ι' (hp q).length = some (loc q) from upd_same _ _] at hl; cases hl
      exact Z.sep q e hq h1 (Ne.symm h2)
     ·rename_i hq2; rw [show ι' B = ι B from if_neg hq2] at hl; exact Y2.apart B b l2 hB hl
    ·intro e e' h h' hne
     exact Z.sep e e' (ear' e h).1 (ear' e' h').1 hne
theorem Up.add (R : Reg P qt Γ ops os B fr hp vl) {S : Nat → Bool} {q : Nat} (U : Up P qt ops os S q) {i : Nat} {o : Oper} (N : Next ops S i o) :
  ∀ j oj, ops.toList[j]? = some oj → (S j || j == i) = true → ∀ d ∈ edgesOf oj, (S d || d == i) = true := by
 intro j oj hoj hS d hd
 simp only [Bool.or_eq_true] at hS ⊢
 rcases hS with hS | hS
 ·exact .inl (U.closed j oj hoj hS d hd)
 ·have : j = i := by simpa using hS
  subst this
  rw [N.is] at hoj
  cases hoj
  exact .inl (N.edges d hd)
theorem opnd_masked {D : Nat → Bool} {x : Operand} (h : ∀ d, x = .tmp d → D d = false) : (⟨⟨mask D a.tmps.toList⟩, []⟩ : Act).eval x = a.eval x := by
 cases x with
 | tmp d =>
  simp only [Act.eval, getD_toList]
  rw [mask_getD, h d rfl]
  rfl
 | _ => rfl
theorem any_sim (hΓ : EnvOk P Γ) (R : Reg P qt Γ ops os B fr hp vl) {Q : Exit → Act → World → Prop} {ι0 : Map} {h0 : Heap} {w0 : World}
  (K : ∀ ι' a' w', Rel ι' (fr os.length) (hp os.length) a' w' → Ext ι0 h0 w0 ι' (hp os.length) w' → Q .normal a' w') :
  ∀ (fuel : Nat) (listed : Array Bool) (a : Act) (w : World) (ι : Map) (loc : Nat → Loc) (q : Nat), listed.size = os.length → (List.range os.length).countP (fun i => !sel listed i) = fuel → Up P qt ops os (sel listed) q →
  St qt os fr hp vl ι0 h0 w0 (sel listed) q ι loc a w → wpAny P .any ops Q fuel listed a w := by
 have hsz : ops.size = os.length := by rw [← R.len]; simp
 have getop : ∀ i, ops[i]? = ops.toList[i]? := fun i => Array.getElem?_toList.symm
 intro fuel
 induction fuel with
 | zero =>
  intro listed a w ι loc q hl hc U Z
  have all : ∀ i, i < os.length → sel listed i = true := by
   intro i hi
   cases hs : sel listed i with
   | true => rfl
   | false =>
    have : 0 < (List.range os.length).countP (fun i => !sel listed i) := List.countP_pos_iff.2 ⟨i, List.mem_range.2 hi, by simp [hs]⟩
    omega
  have hq : q = os.length := by
   have := U.le
   rcases Nat.lt_or_ge q os.length with h1 | h1
   ·have := (U.stop _ (List.getElem?_eq_getElem h1)).2
    rw [all q h1] at this
    cases this
   ·omega
  have noearly : ∀ e, earlyB qt os (sel listed) q e = false := by
   intro e
   cases h : earlyB qt os (sel listed) q e with
   | false => rfl
   | true =>
    obtain ⟨_, h2, x, hx, _⟩ := early_of h
    have := (List.getElem?_eq_some_iff.1 hx).1
    omega
  refine ⟨?_, ?_⟩
  ·rw [List.eq_nil_iff_forall_not_mem]
   intro i hi
   obtain ⟨h1, o, ho, _⟩ := mem_ready.1 hi
   have hil : i < os.length := by rw [← hsz]; exact (Array.getElem?_eq_some_iff.1 ho).1
   have := all i hil
   unfold sel at this
   have h2 : listed.getD i false = listed.getD i true := by
    have : i < listed.size := by omega
    simp [Array.getD, this]
   rw [h2, h1] at this
   cases this
  ·have h1 : lastV os vl (off qt os (sel listed) q) (fr 0) os.length = fr os.length := by
    rw [← walk_fr R.walk os.length (Nat.le_refl _)]
    have : ∀ m, m ≤ os.length → lastV os vl (off qt os (sel listed) q) (fr 0) m = lastV os vl (fun _ => true) (fr 0) m := by
     intro m
     induction m with
     | zero => intro _; rfl
     | succ m ih =>
      intro hm
      have : off qt os (sel listed) q m = true := by
       rcases off_or (qt := qt) (os := os) (q := q) (all m (by omega)) with h | h
       ·exact h
       ·rw [noearly] at h; cases h
      simp only [lastV, ih (by omega), this, if_true]
    exact this _ (Nat.le_refl _)
   have hf := Z.frx
   rw [h1] at hf
   subst hq
   refine K ι a w ⟨F2.of_getD (x := undef) (y := undef) hf.len fun d => hf.at_ d ?_, Z.defers, Z.hr⟩ Z.ext
   cases hm : maskB qt os (sel listed) os.length d with
   | false => rfl
   | true => obtain ⟨e, y, h2, _⟩ := maskB_true hm; rw [noearly] at h2; cases h2
 | succ fuel ih =>
  intro listed a w ι loc q hl hc U Z
  refine ⟨fun hr => ?_, fun i hi => ?_⟩
  ·
   exfalso
   have hex : ∃ i, i < os.length ∧ sel listed i = false := by
    have : 0 < (List.range os.length).countP (fun i => !sel listed i) := by omega
    obtain ⟨i, hi, hs⟩ := List.countP_pos_iff.1 this
    exact ⟨i, List.mem_range.1 hi, by simpa using hs⟩
   obtain ⟨i0, hi0, hs0⟩ := hex
   obtain ⟨m, ⟨hm1, hm2⟩, hm3⟩ := least (p := fun i => i < os.length ∧ sel listed i = false) i0 ⟨hi0, hs0⟩
   have hmo : m < ops.toList.length := by rw [R.len]; exact hm1
   have hom : ops.toList[m]? = some ops.toList[m] := List.getElem?_eq_getElem hmo
   obtain ⟨C, hC, _, hspec⟩ := befs_spec ops.toList [] B R.bf
   have : m ∈ Region.ready .any ops listed := by
    rw [mem_ready]
    refine ⟨?_, _, (getop m).trans hom, fun e he hb => ?_⟩
    ·have hms : m < listed.size := by omega
     unfold sel at hm2
     simp [Array.getD, hms] at hm2 ⊢
     exact hm2
    ·have hd := (hspec m _ hom).1 e.on (edge_mem.2 ⟨e, he, hb, rfl⟩)
     simp at hd
     have hdl : e.on < os.length := by omega
     cases hs : sel listed e.on with
     | true => exact hs
     | false => have := hm3 e.on ⟨hdl, hs⟩; omega
   rw [hr] at this
   cases this
  ·obtain ⟨h1, o, ho, hed⟩ := mem_ready.1 hi
   have hol : ops.toList[i]? = some o := (getop i).symm.trans ho
   have hil : i < os.length := by rw [← R.len]; exact (List.getElem?_eq_some_iff.1 hol).1
   have hils : i < listed.size := by omega
   have hnot : sel listed i = false := by
    unfold sel
    simp [Array.getD, hils] at h1 ⊢
    exact h1
   have N : Next ops (sel listed) i o := ⟨hol, hnot, fun d hd => by obtain ⟨e, he, hb, rfl⟩ := edge_mem.1 hd; exact hed e he hb⟩
   obtain ⟨x, hx, hst⟩ := (stOps_get _ _ R.st).2 i o hol
   obtain ⟨hdst, hk, hg⟩ : x.dst = o.dst ∧ x.k = stK P o.op ∧ stG ops o.guard = some x.g := by
    unfold stOp at hst
    split at hst
    ·rename_i g hg; cases hst; exact ⟨rfl, rfl, hg⟩
    ·cases hst
   have untouched : ∀ d, maskB qt os (sel listed) q d = true → touches d o x = false := by
    intro d hd
    obtain ⟨e, y, h1, h2, h3⟩ := maskB_true hd
    exact R.notouch U h1 N hx h2 h3
   have rdok : ∀ d ∈ reads x, maskB qt os (sel listed) q d = false := by
    intro d hd
    cases hm : maskB qt os (sel listed) q d with
    | false => rfl
    | true =>
     have := untouched d hm
     unfold touches at this
     have hc : (reads x).contains d = true := by simpa using hd
     rw [hc] at this
     simp at this
   have opok : ∀ y ∈ o.op.operands, ∀ d, y = .tmp d → maskB qt os (sel listed) q d = false := by
    intro y hy d hyd
    cases hm : maskB qt os (sel listed) q d with
    | false => rfl
    | true =>
     have := untouched d hm
     unfold touches at this
     have hc : o.op.operands.toList.any (fun y => tmpOf y == some d) = true := List.any_eq_true.2 ⟨y, by simpa using hy, by subst hyd; simp [tmpOf]⟩
     rw [hc] at this
     simp at this
   have dstok : ∀ d, x.dst = some d → maskB qt os (sel listed) q d = false := by
    intro d hd
    cases hm : maskB qt os (sel listed) q d with
    | false => rfl
    | true =>
     have := untouched d hm
     unfold touches at this
     rw [hd] at this
     simp at this
   have hfr0 : ∀ d ∈ reads x, (mask (maskB qt os (sel listed) q) (lastV os vl (off qt os (sel listed) q) (fr 0) os.length)).getD d undef = (fr i).getD d undef := by
    intro d hd
    rw [mask_getD, rdok d hd]
    exact R.frame U N hx hd
   have hfr := ev_of (x := x) hfr0
   have hF2 := Z.frx.masked
   have hwant : Region.wanted o (yielded ops a.tmps) = want (fr i) x.g := by
    rw [← hfr.2]
    refine want_at (ι := ι) (fun d b hgd => ?_) hg
    have hdr : d ∈ reads x := by unfold reads; rw [hgd]; simp
    rw [mask_getD, rdok d hdr]
    exact Z.frx.at_ d (rdok d hdr)
   have hsel := sel_set (listed := listed) (i := i) hils
   have hcount : (List.range os.length).countP (fun j => !sel (listed.setIfInBounds i true) j) = fuel := by
    rw [hsel]
    show (List.range os.length).countP (fun j => !(sel listed j || j == i)) = fuel
    have : ∀ (l : List Nat), l.Nodup → i ∈ l → l.countP (fun j => !sel listed j) = l.countP (fun j => !(sel listed j || j == i)) + 1 := by
     intro l
     induction l with
     | nil => intro _ hm; cases hm
     | cons y l ihl =>
      intro hnd hm
      rw [List.nodup_cons] at hnd
      by_cases hyi : y = i
      ·subst hyi
       have hsame : l.countP (fun j => !(sel listed j || j == y)) = l.countP (fun j => !sel listed j) := by
        refine List.countP_congr fun j hj => ?_
        have : (j == y) = false := by simp; intro q; subst q; exact hnd.1 hj
        rw [this, Bool.or_false]
       simp only [List.countP_cons, hsame, hnot, BEq.rfl, Bool.or_true, Bool.not_true, Bool.not_false, if_true, Bool.false_eq_true, if_false, Nat.add_zero]
      ·have hml : i ∈ l := by
        rcases List.mem_cons.1 hm with q | q
        ·exact absurd q.symm hyi
        ·exact q
       have hb : (y == i) = false := by simp [hyi]
       simp only [List.countP_cons, hb, Bool.or_false, ihl hnd.2 hml]
       omega
    have := this (List.range os.length) List.nodup_range (List.mem_range.2 hil)
    omega
   have go : ∀ (q1 : Nat) (v' : Value) (w1 : World) (ι1 : Map),
     (q1 = q ∧ isEff qt x.k = false ∨ q1 = i + 1 ∧ i = q ∧ isEff qt x.k = true) →
     VR ι1 (vl i) v' → HR ι1 (hp q1) w1 → Ext ι (hp q) w ι1 (hp q1) w1 → wpAny P .any ops Q fuel (listed.setIfInBounds i true) (a.put o.dst v') w1 := by
    intro q1 v' w1 ι1 hq1 hv H1 E1
    have hiq : i < q1 ∨ isEff qt x.k = false := by rcases hq1 with ⟨_, h⟩ | ⟨h, _, _⟩; exact .inr h; exact .inl (by omega)
    have hqq : q ≤ q1 ∧ q1 ≤ os.length := by have := U.le; rcases hq1 with ⟨h, _⟩ | ⟨h, h2, _⟩ <;> omega
    have ee : ∀ e, earlyB qt os (fun j => sel listed j || j == i) q1 e = earlyB qt os (sel listed) q e := by
     intro e
     unfold earlyB
     dsimp only
     by_cases hei : e = i
     ·subst hei
      rw [hnot, effB_of hx]
      rcases hiq with h | h
      ·have : ¬ q1 ≤ e := by omega
       simp [this]
      ·simp [h]
     ·have hb : (e == i) = false := by simp [hei]
      rw [hb, Bool.or_false]
      have : (effB qt os e && decide (q1 ≤ e)) = (effB qt os e && decide (q ≤ e)) := by
       rcases hq1 with ⟨h, _⟩ | ⟨h, h2, _⟩
       ·rw [h]
       ·have : decide (q1 ≤ e) = decide (q ≤ e) := by by_cases g : q ≤ e <;> simp <;> omega
        rw [this]
      rw [this]
    have em : maskB qt os (fun j => sel listed j || j == i) q1 = maskB qt os (sel listed) q := by
     unfold maskB
     have : earlyB qt os (fun j => sel listed j || j == i) q1 = earlyB qt os (sel listed) q := funext ee
     rw [this]
    have eo : off qt os (fun j => sel listed j || j == i) q1 = fun j => off qt os (sel listed) q j || j == i := by
     funext j
     unfold off
     dsimp only
     by_cases hji : j = i
     ·subst hji
      rw [hnot, effB_of hx]
      rcases hiq with h | h <;> simp [h]
     ·have hb : (j == i) = false := by simp [hji]
      rw [hb, Bool.or_false, Bool.or_false]
      have : (!effB qt os j || decide (j < q1)) = (!effB qt os j || decide (j < q)) := by
       rcases hq1 with ⟨h, _⟩ | ⟨h, h2, _⟩
       ·rw [h]
       ·have : decide (j < q1) = decide (j < q) := by by_cases g : j < q <;> simp <;> omega
        rw [this]
      rw [this]
    have hframe : lastV os vl (off qt os (fun j => sel listed j || j == i) q1) (fr 0) os.length = put (lastV os vl (off qt os (sel listed) q) (fr 0) os.length) o.dst (vl i) := by
     rw [eo, ← hdst]
     refine last_add (off_false hnot) hx os.length hil fun j hj1 hj2 hS d hd => ?_
     intro hdj
     have hy : os[j]? = some os[j] := List.getElem?_eq_getElem hj2
     rw [hy] at hdj
     simp only [Option.bind_some] at hdj
     have hp0 := pair_of R.chk hx hy hj1
     unfold pairOk at hp0
     have hcl : clash x os[j] = true := by unfold clash; rw [hd]; simp [hdj]
     simp only [hcl, Bool.not_true, Bool.false_and, Bool.or_false] at hp0
     have := R.later U N hy hp0
     rw [off_true hS] at this
     cases this
    have alen : (a.put o.dst v').tmps.toList.length = a.tmps.toList.length := by rw [act_put, put_length]
    have Z1 : St qt os fr hp vl ι0 h0 w0 (fun j => sel listed j || j == i) q1 ι1 loc (a.put o.dst v') w1 := by
     refine ⟨?_, by rw [put_defers]; exact Z.defers, H1, Z.ext.trans E1, fun e he => ?_, fun e e' he he' hne => ?_⟩
     ·rw [em, hframe, act_put]
      exact (Z.frx.mono E1.sub).put hv
     ·rw [ee] at he
      obtain ⟨d, cells, Y⟩ := Z.ear e he
      obtain ⟨y, hy, hyd⟩ := Y.is
      refine ⟨d, cells, Y.step E1 alen ?_ fun j z hj hS hs hz => ?_⟩
      ·rw [act_put, ← hdst, put_getD]
       intro hxd
       have := dstok d hxd
       rw [maskB_of he hy hyd] at this
       cases this
      ·have hji : j = i := by
        simp only [hs, Bool.false_or, beq_iff_eq] at hS
        exact hS
       subst hji
       rw [hx] at hz
       cases hz
       intro hxd
       have := dstok d hxd
       rw [maskB_of he hy hyd] at this
       cases this
     ·rw [ee] at he he'
      exact Z.sep e e' he he' hne
    have U1 : Up0 P qt ops os (fun j => sel listed j || j == i) q1 := by
     refine ⟨Up.add R U N, fun e y hy hey hlt => ?_, hqq.2⟩
     rcases Nat.lt_or_ge e q with h | h
     ·simp [U.lt e y hy hey h]
     ·rcases hq1 with ⟨h2, _⟩ | ⟨h2, h3, _⟩
      ·omega
      ·have : e = i := by omega
       subst this
       simp
    obtain ⟨q2, ι2, U2, Z2⟩ := adv R (os.length - q1) q1 ι1 (by omega) U1 Z1
    rw [← hsel] at U2 Z2
    exact ih _ _ w1 ι2 loc q2 (by simp [hl]) hcount U2 Z2
   have goE : ∀ (cells : List Value) (m : Nat) (v2 v' : Value) (w1 : World) (ι1 : Map), q < i → isEff qt x.k = true → looseOk qt ops.toList os B i = true → sel listed q = false → hp (i + 1) = hp i ++ [some ⟨.fix, cells⟩] →
     Names (hp i).length (vl i) (hp q).length v2 → cells.all (belowC (hp q).length) = true → VR ι1 v2 v' → HR ι1 (hp q ++ [some ⟨.fix, cells⟩]) w1 → Ext ι (hp q) w ι1 (hp q ++ [some ⟨.fix, cells⟩]) w1 →
     wpAny P .any ops Q fuel (listed.setIfInBounds i true) (a.put o.dst v') w1 := by
    intro cells m v2 v' w1 ι1 hqi he hlo hSq hpush hnm hbel hv H1 E1
    have hgetn : (hp q ++ [some (⟨.fix, cells⟩ : Blk)])[(hp q).length]? = some (some ⟨.fix, cells⟩) := by simp
    obtain ⟨l, e1, f1, f2, f3, f4, c, e2, f, f5, f6, f7, f8⟩ := H1.live _ _ hgetn
    have htake : (hp q ++ [some (⟨.fix, cells⟩ : Blk)]).take (hp q).length = hp q := by simp
    have H2 := H1.cut (hp q).length (by simp) (by rw [htake]; exact Z.hr.allBelow)
    have E2 := Ext.cut Z.hr E1
    rw [htake] at H2 E2
    have apart1 : ∀ (B0 : Nat) (b : Blk) (l2 : Loc), (hp q)[B0]? = some (some b) → ι1 B0 = some l2 → l2.b ≠ l.b := by
     intro B0 b l2 hB hl2
     have hlt : B0 < (hp q).length := (List.getElem?_eq_some_iff.1 hB).1
     have hB' : (hp q ++ [some (⟨.fix, cells⟩ : Blk)])[B0]? = some (some b) := by rw [List.getElem?_append_left hlt]; exact hB
     exact fun h => H1.apart _ _ _ _ _ _ hgetn hB' (by omega) (by simp) e1 hl2 h.symm
    have hfresh : w.heap.size ≤ l.b := by
     rcases E1.imgR _ _ _ hgetn e1 with h | ⟨B0, b0, l0, h1, h2, h3⟩
     ·exact h
     ·exact absurd h3 (apart1 B0 b0 l0 h1 (E1.sub _ _ h2))
    have hltw : l.b < w1.heap.size := H1.lt hgetn e1
    obtain ⟨_, _, _, d, hxd, _⟩ := loose_of hlo hx
    have ee : ∀ e, earlyB qt os (fun j => sel listed j || j == i) q e = (earlyB qt os (sel listed) q e || e == i) := by
     intro e
     unfold earlyB
     dsimp only
     by_cases hei : e = i
     ·subst hei
      rw [effB_of hx, he]
      simp; omega
     ·have hb : (e == i) = false := by simp [hei]
      rw [hb, Bool.or_false, Bool.or_false]
    have eo : off qt os (fun j => sel listed j || j == i) q = off qt os (sel listed) q := by
     funext j
     unfold off
     dsimp only
     by_cases hji : j = i
     ·subst hji
      rw [effB_of hx, he, hnot]
      have : ¬ j < q := by omega
      simp [this]
     ·have hb : (j == i) = false := by simp [hji]
      rw [hb, Bool.or_false]
    have em : ∀ d', maskB qt os (fun j => sel listed j || j == i) q d' = false → maskB qt os (sel listed) q d' = false ∧ x.dst ≠ some d' := by
     intro d' h
     constructor
     ·cases hm : maskB qt os (sel listed) q d' with
      | false => rfl
      | true =>
       obtain ⟨e, y, h1, h2, h3⟩ := maskB_true hm
       rw [maskB_of (by rw [ee, h1]; rfl) h2 h3] at h
       cases h
     ·intro h3
      rw [maskB_of (by rw [ee]; simp) hx h3] at h
      cases h
    have alen : (a.put o.dst v').tmps.toList.length = a.tmps.toList.length := by rw [act_put, put_length]
    have Z1 : St qt os fr hp vl ι0 h0 w0 (fun j => sel listed j || j == i) q (cutM ι1 (hp q).length) (fun j => if j = i then l else loc j) (a.put o.dst v') w1 := by
     refine ⟨⟨?_, fun d' hd' => ?_⟩, by rw [put_defers]; exact Z.defers, H2, Z.ext.trans E2, fun e hee => ?_, fun e e' hee hee' hne => ?_⟩
     ·rw [eo, alen]; exact Z.frx.len
     ·obtain ⟨m1, m2⟩ := em d' hd'
      rw [eo, act_put, ← hdst, put_getD m2]
      exact (Z.frx.at_ d' m1).mono E2.sub
     ·rw [ee] at hee
      by_cases hei : e = i
      ·subst hei
       refine ⟨d, cells, ⟨⟨x, hx, hxd⟩, hpush, ?_, ?_, ?_, ?_, ?_, ?_⟩⟩
       ·intro hlt ι' hι'
        rw [if_pos rfl] at hι'
        rw [alen] at hlt
        rw [act_put, ← hdst, hxd, put_at, if_pos hlt]
        exact hnm.vr hv e1 hι'
       ·rw [if_pos rfl]
        exact ⟨f1, f2, f3, f4, c, e2, f, f5, f6, f7, f8.cut (fun _ _ h q => h.cut q) hbel⟩
       ·rw [if_pos rfl]; exact Nat.le_trans Z.ext.size hfresh
       ·rw [if_pos rfl]; exact hltw
       ·intro B0 b l2 hB hl2
        rw [if_pos rfl]
        have hlt : B0 < (hp q).length := (List.getElem?_eq_some_iff.1 hB).1
        simp only [cutM, hlt, if_true] at hl2
        exact apart1 B0 b l2 hB hl2
       ·intro j y hj hS hy hyd
        have hji : (j == e) = false := by simp; omega
        rw [hji, Bool.or_false] at hS
        have hp0 := pair_of R.chk hx hy hj
        unfold pairOk at hp0
        have hcl : clash x y = true := by unfold clash; rw [hxd]; simp [hyd]
        simp only [hcl, Bool.not_true, Bool.false_and, Bool.or_false] at hp0
        have := R.later U N hy hp0
        rw [hS] at this
        cases this
      ·have heb : (e == i) = false := by simp [hei]
       rw [heb, Bool.or_false] at hee
       obtain ⟨d2, c2, Y⟩ := Z.ear e hee
       obtain ⟨y, hy, hyd⟩ := Y.is
       refine ⟨d2, c2, ?_⟩
       rw [if_neg hei]
       refine Y.step E2 alen ?_ fun j z hj hS hs hz => ?_
       ·rw [act_put, ← hdst, put_getD]
        intro hxd2
        have := dstok d2 hxd2
        rw [maskB_of hee hy hyd] at this
        cases this
       ·have hji : j = i := by
         simp only [hs, Bool.false_or, beq_iff_eq] at hS
         exact hS
        subst hji
        rw [hx] at hz
        cases hz
        intro hxd2
        have := dstok d2 hxd2
        rw [maskB_of hee hy hyd] at this
        cases this
     ·rw [ee] at hee hee'
      have old : ∀ e, e ≠ i → (earlyB qt os (sel listed) q e || e == i) = true → earlyB qt os (sel listed) q e = true ∧ (loc e).b < w.heap.size := by
       intro e hei h
       have heb : (e == i) = false := by simp [hei]
       rw [heb, Bool.or_false] at h
       obtain ⟨d2, c2, Y⟩ := Z.ear e h
       exact ⟨h, Y.lt⟩
      by_cases h1 : e = i
      ·by_cases h2 : e' = i
       ·omega
       ·obtain ⟨_, g⟩ := old e' h2 hee'
        rw [if_pos h1, if_neg h2]
        omega
      ·by_cases h2 : e' = i
       ·obtain ⟨_, g⟩ := old e h1 hee
        rw [if_neg h1, if_pos h2]
        omega
       ·rw [if_neg h1, if_neg h2]
        exact Z.sep e e' (old e h1 hee).1 (old e' h2 hee').1 hne
    have U1 : Up P qt ops os (sel (listed.setIfInBounds i true)) q := by
     rw [hsel]
     refine ⟨Up.add R U N, fun e y hy hey hlt => by simp [U.lt e y hy hey hlt], fun y hy => ⟨(U.stop y hy).1, ?_⟩, U.le⟩
     have : (q == i) = false := by simp; omega
     rw [hSq, this]
     rfl
    rw [← hsel] at Z1
    exact ih _ _ w1 _ _ q (by simp [hl]) hcount U1 Z1
   unfold wpOp
   simp only [ho]
   rw [hwant]
   cases hw : want (fr i) x.g with
   | false =>
    simp only [Bool.false_eq_true, if_false]
    obtain ⟨n1, n2⟩ := R.walk.no i x hx hw
    cases he : isEff qt x.k with
    | false => exact go q undef w ι (.inl ⟨rfl, he⟩) (by rw [n1]; exact VR.undef ι) Z.hr (Ext.refl _ _ _)
    | true =>
     rcases R.effAt U N hx he with hiq | ⟨_, hlo, _⟩
     ·subst hiq
      exact go (i + 1) undef w ι (.inr ⟨rfl, rfl, he⟩) (by rw [n1]; exact VR.undef ι) (by rw [n2]; exact Z.hr) (by rw [n2]; exact Ext.refl _ _ _)
     ·obtain ⟨_, hgn, _⟩ := loose_of hlo hx
      rw [hgn] at hw
      cases hw
   | true =>
    simp only [if_true]
    refine .inl ?_
    have hcongr : opA Γ x.k (fr i) = opA Γ x.k (mask (maskB qt os (sel listed) q) (lastV os vl (off qt os (sel listed) q) (fr 0) os.length)) := by
     funext h
     exact (opA_congr hfr.1).symm
    have run : ∀ (v : Value) (h' : Heap), opA Γ x.k (fr i) (hp q) = some (v, h') → (∀ v' w1 ι1, VR ι1 v v' → HR ι1 h' w1 → Ext ι (hp q) w ι1 h' w1 → wpAny P .any ops Q fuel (listed.setIfInBounds i true) (a.put o.dst v') w1) →
      o.wp P a w (wpAny P .any ops Q fuel (listed.setIfInBounds i true)) Q := by
     intro v h' hev kk
     rw [hcongr, hk] at hev
     have hsel0 : ∀ cs b, o.op ≠ .select cs b := by
      intro cs b hop
      rw [hop] at hev
      simp only [stK, opA, pureA] at hev
      cases hev
     have hexec : execOp a.eval o = execOp (⟨⟨mask (maskB qt os (sel listed) q) a.tmps.toList⟩, []⟩ : Act).eval o :=
      execOp_congr o hsel0 fun y hy => (opnd_masked (opok y hy)).symm
     have hop := op_sim hΓ Z.hr (a := ⟨⟨mask (maskB qt os (sel listed) q) a.tmps.toList⟩, []⟩) hF2 hev
     unfold Oper.wp
     rw [hexec]
     cases hop with
     | eff he =>
      obtain ⟨w1, ι1, hrun, H1, E1⟩ := he
      rcases hrun with ⟨v', hrun, hv'⟩ | ⟨hrun, hvu⟩
      ·rw [hrun]; exact kk v' w1 ι1 hv' H1 E1
      ·rw [hrun]; exact kk undef w1 ι1 (by rw [hvu]; exact VR.undef ι1) H1 E1
     | call f args' hrun hcl =>
      rw [hrun]
      exact hcl.mono fun e w1 ⟨v', ι1, he, hv', H1, E1⟩ => by subst he; exact kk v' w1 ι1 hv' H1 E1
    cases he : isEff qt x.k with
    | false => exact run _ _ (R.eval U N hx hw he) fun v' w1 ι1 h1 h2 h3 => go q v' w1 ι1 (.inl ⟨rfl, he⟩) h1 h2 h3
    | true =>
     have hyes := R.walk.yes i x hx hw
     rcases R.effAt U N hx he with hiq | ⟨hqi, hlo, hSq⟩
     ·subst hiq
      exact run _ _ hyes fun v' w1 ι1 h1 h2 h3 => go (i + 1) v' w1 ι1 (.inr ⟨rfl, rfl, he⟩) h1 h2 h3
     ·obtain ⟨hal, _, ⟨hzo, hzp⟩, _⟩ := loose_of hlo hx
      obtain ⟨cells, hc1, hc2, hc3⟩ := alloc_any hal hzo hyes
      obtain ⟨v2, hv2, hnm⟩ := hc2 (hp q)
      refine run _ _ hv2 fun v' w1 ι1 h1 h2 h3 => goE cells 0 v2 v' w1 ι1 hqi he hlo hSq hc1 hnm (hc3 _ fun y hy hn => ?_) h1 h2 h3
      rw [← hfr.1 y hy] at hn ⊢
      have : VR ι (ev (mask (maskB qt os (sel listed) q) (lastV os vl (off qt os (sel listed) q) (fr 0) os.length)) y) ((⟨⟨mask (maskB qt os (sel listed) q) a.tmps.toList⟩, []⟩ : Act).eval y) := ev_sim hF2 (List.all_eq_true.1 hzp y hy)
      exact this.cells_below Z.hr.dom hn
def CrossOk (Γ : Env) (os : List IOp) (X : List (Nat × Nat)) (t : Fr) (h : Heap) : Prop :=
 ∀ p ∈ X, ∀ x ti hi tj hj, os[p.1]? = some x → runR Γ (os.take p.1) t h = some (ti, hi) → runR Γ (os.take (if p.1 < p.2 then p.2 + 1 else p.2)) t h = some (tj, hj) → want ti x.g = true →
  ∀ v h1, opA Γ x.k ti hi = some (v, h1) → ∃ h2, opA Γ x.k ti hj = some (v, h2)
theorem dreg_any (hΓ : EnvOk P Γ) (hq : QuietEnv qt Γ) {X : List (Nat × Nat)} (hs : stD P qt ops = some (os, X)) {t' : Fr} {h' : Heap} (hr : runR Γ os t h = some (t', h')) (hx : CrossOk Γ os X t h)
  (Re : Rel ι t h a w) {Q : Exit → Act → World → Prop} (K : ∀ ι' a' w', Rel ι' t' h' a' w' → Ext ι h w ι' h' w' → Q .normal a' w') : wpAny P .any ops Q ops.size (Array.replicate ops.size false) a { w with drawn := w.drawn + 1 } := by
 unfold stD at hs
 split at hs
 ·rename_i os0 B hst hB
  split at hs
  ·rename_i hchk
   cases hs
   obtain ⟨fr, hp, vl, f0, p0, fn, pn, W, pre⟩ := walk_of os t h t' h' hr
   subst f0
   subst p0
   have R : Reg P qt Γ ops os B fr hp vl := by
    refine ⟨hst, hB, hchk, hq, W, fun i j x hxi hcr hw => ?_⟩
    have hil := (List.getElem?_eq_some_iff.1 hxi).1
    have hjl : j < os.length := by
     unfold crossP at hcr
     rw [hxi] at hcr
     cases hy : os[j]? with
     | none => rw [hy] at hcr; cases hcr
     | some y => exact (List.getElem?_eq_some_iff.1 hy).1
    have hmem : (i, j) ∈ crossOf qt os B := by
     unfold crossOf
     exact List.mem_flatMap.2 ⟨i, List.mem_range.2 hil, List.mem_map.2 ⟨j, List.mem_filter.2 ⟨List.mem_range.2 hjl, hcr⟩, rfl⟩⟩
    exact hx (i, j) hmem x _ _ _ _ hxi (pre i (by omega)) (pre _ (by dsimp only; split <;> omega)) hw (vl i) _ (W.yes i x hxi hw)
   have hsz : ops.size = os.length := by rw [← R.len]; simp
   have hnone : ∀ i, sel (Array.replicate ops.size false) i = false := by
    intro i
    unfold sel
    by_cases hi : i < ops.size
    ·simp [Array.getD, hi]
    ·simp [Array.getD, hi]
   have hnf : sel (Array.replicate ops.size false) = fun _ => false := funext hnone
   have hl0 : ∀ m, lastV os vl (off qt os (fun _ => false) 0) (fr 0) m = fr 0 := by
    intro m
    induction m with
    | zero => rfl
    | succ m ih => simp only [lastV, off_false (qt := qt) (os := os) (q := 0) (S := fun _ => false) rfl, Bool.false_eq_true, if_false, ih]
   have hne : ∀ e, earlyB qt os (fun _ => false) 0 e = false := fun e => rfl
   have E0 : Ext ι (hp 0) w ι (hp 0) { w with drawn := w.drawn + 1 } := Ext.drawn rfl rfl rfl rfl
   have U0 : Up0 P qt ops os (fun _ => false) 0 := ⟨fun i o _ hS => (by cases hS), fun e x _ _ h => (by omega), Nat.zero_le _⟩
   have Z0 : St qt os fr hp vl ι (hp 0) w (fun _ => false) 0 ι (fun _ => ⟨0, 0, 0, 0, 0⟩) a { w with drawn := w.drawn + 1 } := by
    refine ⟨?_, Re.defers, Re.hr.drawn rfl, E0, fun e h => (by rw [hne] at h; cases h), fun e e' h => (by rw [hne] at h; cases h)⟩
    rw [hl0]
    exact ⟨Re.fr.length, fun d _ => Re.fr.getD d _ _ (VR.undef ι)⟩
   obtain ⟨q, ι', U1, Z1⟩ := adv R os.length 0 ι (by omega) U0 Z0
   rw [← hnf] at U1 Z1
   have c0 : (List.range os.length).countP (fun i => !sel (Array.replicate ops.size false) i) = ops.size := by
    rw [hsz, List.countP_eq_length.2 fun i _ => by rw [← hsz, hnone]; rfl]
    simp
   exact any_sim hΓ R (ι0 := ι) (h0 := hp 0) (w0 := w) (fun ι' a' w' r1 r2 => K ι' a' w' (by rw [← fn, ← pn]; exact r1) (by rw [← pn]; exact r2)) ops.size _ a _ ι' _ q (by simp [hsz]) c0 U1 Z1
  ·cases hs
 ·cases hs
def posI (π : List Nat) (i : Nat) : Nat := π.findIdx (fun j => j == i)
def renO (π : List Nat) (o : Oper) : Oper := { o with after := o.after.map fun e => { e with on := posI π e.on }, guard := o.guard.map fun g => (posI π g.1, g.2) }
def permO (π : List Nat) (ops : Array Oper) : Array Oper := (π.map fun i => renO π (ops.toList.getD i default)).toArray
def permOk (π : List Nat) (n : Nat) : Bool := decide (π.length = n) && ((List.range n).all (fun i => decide (π[posI π i]? = some i)) && (List.range n).all (fun i => decide (posI π (π.getD i n) = i) && decide (π.getD i n < n)))
section
variable {π : List Nat} {ops : Array Oper}
theorem perm_len (ok : permOk π ops.size = true) : π.length = ops.size := by
 simp only [permOk, Bool.and_eq_true, decide_eq_true_eq] at ok; exact ok.1
theorem perm_at (ok : permOk π ops.size = true) {i : Nat} (hi : i < ops.size) : π[posI π i]? = some i := by
 simp only [permOk, Bool.and_eq_true, List.all_eq_true, List.mem_range, decide_eq_true_eq] at ok; exact ok.2.1 i hi
theorem perm_inv (ok : permOk π ops.size = true) {k : Nat} (hk : k < ops.size) : posI π (π.getD k ops.size) = k ∧ π.getD k ops.size < ops.size := by
 simp only [permOk, Bool.and_eq_true, List.all_eq_true, List.mem_range, decide_eq_true_eq] at ok; exact ok.2.2 k hk
theorem perm_out (ok : permOk π ops.size = true) {i : Nat} (hi : ops.size ≤ i) : posI π i = ops.size := by
 rw [← perm_len ok]
 unfold posI
 rw [List.findIdx_eq_length]
 intro x hx
 obtain ⟨k, hk, rfl⟩ := List.getElem_of_mem hx
 have h1 := (perm_inv ok (k := k) (by rw [← perm_len ok]; exact hk)).2
 have h2 : π.getD k ops.size = π[k] := by simp [List.getD, List.getElem?_eq_getElem hk]
 rw [h2] at h1
 simp; omega
theorem perm_lt (ok : permOk π ops.size = true) {i : Nat} (hi : i < ops.size) : posI π i < ops.size := by
 have := perm_at ok hi
 rw [← perm_len ok]
 exact (List.getElem?_eq_some_iff.1 this).1
theorem permO_size (ok : permOk π ops.size = true) : (permO π ops).size = ops.size := by simp [permO, perm_len ok]
theorem permO_get (ok : permOk π ops.size = true) (i : Nat) : (permO π ops)[posI π i]? = (ops[i]?).map (renO π) := by
 rcases Nat.lt_or_ge i ops.size with hi | hi
 ·have h1 := perm_at ok hi
  have h2 : ops[i]? = some ops[i] := Array.getElem?_eq_getElem hi
  have h3 : ops.toList.getD i default = ops[i] := by simp [List.getD, hi]
  unfold permO
  rw [List.getElem?_toArray, List.getElem?_map, h1, h2]
  simp only [Option.map_some, h3]
 ·rw [perm_out ok hi, Array.getElem?_eq_none (by rw [permO_size ok]; exact Nat.le_refl _), Array.getElem?_eq_none hi]
  rfl
theorem perm_inj (ok : permOk π ops.size = true) {i j : Nat} (hi : i < ops.size) (e : posI π j = posI π i) : j = i := by
 rcases Nat.lt_or_ge j ops.size with hj | hj
 ·have h1 := perm_at ok hi
  have h2 := perm_at ok hj
  rw [e, h1] at h2
  exact (Option.some.inj h2).symm
 ·have := perm_out ok hj
  have := perm_lt ok hi
  omega
theorem perm_wanted (ok : permOk π ops.size = true) (o : Oper) (tmps : Array Value) : Region.wanted (renO π o) (yielded (permO π ops) tmps) = Region.wanted o (yielded ops tmps) := by
 unfold Region.wanted renO
 cases o.guard with
 | none => rfl
 | some g =>
  obtain ⟨j, b⟩ := g
  simp only [Option.map_some]
  have : yielded (permO π ops) tmps (posI π j) = yielded ops tmps j := by
   unfold yielded
   rw [permO_get ok]
   cases ops[j]? <;> rfl
  rw [this]
structure LR (π : List Nat) (n : Nat) (L L' : Array Bool) : Prop where
 s : L.size = n
 s' : L'.size = n
 at_ : ∀ i, L'.getD (posI π i) false = L.getD i false
theorem getD_tf {L : Array Bool} {i : Nat} (h : i < L.size) : L.getD i true = L.getD i false := by simp [Array.getD, h]
theorem perm_ready (ok : permOk π ops.size = true) {L L' : Array Bool} (r : LR π ops.size L L') {md : Region.Mode} {i : Nat} (hi : i < ops.size) : posI π i ∈ Region.ready md (permO π ops) L' ↔ i ∈ Region.ready md ops L := by
 rw [mem_ready, mem_ready, permO_get ok, getD_tf (by rw [r.s']; exact perm_lt ok hi), getD_tf (by rw [r.s]; exact hi), r.at_]
 have h2 : ops[i]? = some ops[i] := Array.getElem?_eq_getElem hi
 rw [h2]
 simp only [Option.map_some, Option.some.injEq, exists_eq_left']
 refine and_congr Iff.rfl ⟨fun h e he hb => ?_, fun h e he hb => ?_⟩
 ·have := h { e with on := posI π e.on } (by unfold renO; exact Array.mem_map.2 ⟨e, he, rfl⟩) hb
  rw [← r.at_]; exact this
 ·unfold renO at he
  obtain ⟨e0, he0, rfl⟩ := Array.mem_map.1 he
  have := h e0 he0 hb
  rw [← r.at_] at this; exact this
theorem getD_set_eq {L : Array Bool} {i : Nat} (h : i < L.size) : (L.setIfInBounds i true).getD i false = true := by
 simp [Array.getD, h]
theorem LR.set (ok : permOk π ops.size = true) {L L' : Array Bool} (r : LR π ops.size L L') {i : Nat} (hi : i < ops.size) : LR π ops.size (L.setIfInBounds i true) (L'.setIfInBounds (posI π i) true) := by
 refine ⟨by simp [r.s], by simp [r.s'], fun j => ?_⟩
 by_cases hj : j = i
 ·subst hj
  rw [getD_set_eq (by rw [r.s']; exact perm_lt ok hi), getD_set_eq (by rw [r.s]; exact hi)]
 ·rw [getD_set_ne false (fun q => hj (perm_inj ok hi q.symm)), getD_set_ne false (fun q => hj q.symm)]
  exact r.at_ j
theorem wpAny_perm (ok : permOk π ops.size = true) {md : Region.Mode} {Q : Exit → Act → World → Prop} : ∀ (fuel : Nat) (L L' : Array Bool) (a : Act) (w : World), LR π ops.size L L' →
  wpAny P md (permO π ops) Q fuel L' a w → wpAny P md ops Q fuel L a w := by
 have nil : ∀ {L L' : Array Bool}, LR π ops.size L L' → Region.ready md ops L = [] → Region.ready md (permO π ops) L' = [] := fun {L L'} r e => by
  rw [List.eq_nil_iff_forall_not_mem] at e ⊢
  intro k hk
  have hkl : k < ops.size := by
   obtain ⟨_, o, ho, _⟩ := mem_ready.1 hk
   rw [← permO_size ok]
   exact (Array.getElem?_eq_some_iff.1 ho).1
  obtain ⟨h1, h2⟩ := perm_inv ok hkl
  rw [← h1] at hk
  exact e _ ((perm_ready ok r h2).1 hk)
 have nil' : ∀ {L L' : Array Bool}, LR π ops.size L L' → Region.ready md (permO π ops) L' = [] → Region.ready md ops L = [] := fun {L L'} r e => by
  rw [List.eq_nil_iff_forall_not_mem] at e ⊢
  intro i hi
  have hil : i < ops.size := by
   obtain ⟨_, o, ho, _⟩ := mem_ready.1 hi
   exact (Array.getElem?_eq_some_iff.1 ho).1
  exact e _ ((perm_ready ok r hil).2 hi)
 intro fuel
 induction fuel with
 | zero => exact fun L L' a w r q => ⟨nil' r q.1, q.2⟩
 | succ fuel ih =>
  intro L L' a w r q
  refine ⟨fun e => q.1 (nil r e), fun i hi => ?_⟩
  have hil : i < ops.size := by
   obtain ⟨_, o, ho, _⟩ := mem_ready.1 hi
   exact (Array.getElem?_eq_some_iff.1 ho).1
  have q1 := wpOp_mono (fun a w => ih _ _ a w (r.set ok hil)) (q.2 _ ((perm_ready ok r hil).2 hi))
  unfold wpOp at q1 ⊢
  rw [permO_get ok, Array.getElem?_eq_getElem hil] at q1
  rw [Array.getElem?_eq_getElem hil]
  simp only [Option.map_some] at q1
  rw [perm_wanted ok] at q1
  exact q1
end
def isAl (P : Program) (ops : Array Oper) (i : Nat) : Bool := match ops.toList[i]? with
 | some o => isAlloc (stK P o.op)
 | none => false
def moves (P : Program) (ops : Array Oper) : List (List Nat) :=
  ((List.range ops.size).filter (isAl P ops)).flatMap fun m => (((List.range ops.size).filter fun p => decide (m < p)).reverse).map fun p =>
    ((List.range ops.size).filter fun i => !(i == m) && decide (i ≤ p)) ++ (m :: (List.range ops.size).filter fun i => decide (p < i))
def stD' (P : Program) (qt : List Nat) (ops : Array Oper) : Option (List IOp × List (Nat × Nat)) :=
 match stD P qt ops with
 | some r => some r
 | none => (moves P ops).findSome? fun π => if permOk π ops.size then stD P qt (permO π ops) else none
theorem stD'_cases {ops : Array Oper} {r : List IOp × List (Nat × Nat)} (h : stD' P qt ops = some r) : stD P qt ops = some r ∨ ∃ π, permOk π ops.size = true ∧ stD P qt (permO π ops) = some r := by
 unfold stD' at h
 split at h
 ·rename_i q hq; cases h; exact .inl hq
 ·obtain ⟨π, _, hπ⟩ := List.exists_of_findSome?_eq_some h
  split at hπ
  ·rename_i ok; exact .inr ⟨π, ok, hπ⟩
  ·cases hπ
theorem dreg_sim (hm : P.follows .mixedOrders = true) (hΓ : EnvOk P Γ) (hq : QuietEnv qt Γ) {X : List (Nat × Nat)} (hs : stD' P qt ops = some (os, X)) {t' : Fr} {h' : Heap} (hr : runR Γ os t h = some (t', h')) (hx : CrossOk Γ os X t h)
  (Re : Rel ι t h a w) {id : Nat} {Q : Exit → Act → World → Prop} (K : ∀ ι' a' w', Rel ι' t' h' a' w' → Ext ι h w ι' h' w' → Q .normal a' w') : (Code.region id ops true).wp P Q a w := by
 refine wp_region_any hm ?_
 rcases stD'_cases hs with hs | ⟨π, ok, hs⟩
 ·exact dreg_any hΓ hq hs hr hx Re K
 ·have h := dreg_any hΓ hq hs hr hx Re K
  rw [permO_size ok] at h
  exact wpAny_perm ok _ _ _ _ _ ⟨by simp, by simp, fun i => by simp only [Array.getD, Array.size_replicate]; split <;> split <;> simp⟩ h
end Go.Am
namespace Go.Am
set_option linter.all false
variable {P : Program} {ι : Map} {h : Heap} {w w' : World} {t : Fr} {a : Act} {qt : List Nat}
abbrev Post := Exit → Fr → Heap → Prop
def T (P : Program) (c : Code) (Q : Post) (t : Fr) (h : Heap) : Prop :=
 ∀ (ι : Map) (a : Act) (w : World), Rel ι t h a w → c.wp P (fun e a' w' => ∃ t' h' ι', Q e t' h' ∧ Rel ι' t' h' a' w' ∧ Ext ι h w ι' h' w') a w
def stC (P : Program) (qt : List Nat) : Code → Option IL
 | .skip => some .skip
 | .region _ ops false => (stOps P ops ops.toList).map .reg
 | .region _ ops true => (stD' P qt ops).map fun p => .dreg p.1 p.2
 | .seq a b => match stC P qt a, stC P qt b with
  | some x, some y => some (.seq x y)
  | _, _ => none
 | .cond c a b => if opdOK c then match stC P qt a, stC P qt b with
  | some x, some y => some (.ite c x y)
  | _, _ => none
  else none
 | .block id b => (stC P qt b).map (.block id)
 | .loop b => (stC P qt b).map .loop
 | .exit id => some (.exit id)
 | .ret => some .ret
 | _ => none
def TI (P : Program) (qt : List Nat) (c : IL) (Q : Post) (t : Fr) (h : Heap) : Prop := ∀ code, stC P qt code = some c → T P code Q t h
theorem inv_reg {code : Code} {ops : List IOp} (hc : stC P qt code = some (.reg ops)) : ∃ id os, code = .region id os false ∧ stOps P os os.toList = some ops := by
 cases code with
 | region id os d =>
  cases d
  ·simp only [stC] at hc
   cases hs : stOps P os os.toList with
   | none => rw [hs] at hc; cases hc
   | some l => rw [hs] at hc; cases hc; exact ⟨id, os, rfl, hs⟩
  ·simp [stC] at hc
 | _ => simp only [stC] at hc <;> (repeat' split at hc) <;> first | (cases hc; done) | (simp at hc; done)
theorem inv_dreg {code : Code} {ops : List IOp} {X : List (Nat × Nat)} (hc : stC P qt code = some (.dreg ops X)) : ∃ id os, code = .region id os true ∧ stD' P qt os = some (ops, X) := by
 cases code with
 | region id os d =>
  cases d
  ·simp [stC] at hc
  ·simp only [stC] at hc
   cases hs : stD' P qt os with
   | none => rw [hs] at hc; cases hc
   | some l => rw [hs] at hc; cases hc; exact ⟨id, os, rfl, by rw [hs]⟩
 | _ => simp only [stC] at hc <;> (repeat' split at hc) <;> first | (cases hc; done) | (simp at hc; done)
theorem inv_skip {code : Code} (hc : stC P qt code = some .skip) : code = .skip := by
 cases code with
 | skip => rfl
 | region id os d => cases d <;> simp [stC] at hc
 | _ => simp only [stC] at hc <;> (repeat' split at hc) <;> first | (cases hc; done) | (simp at hc; done)
theorem inv_seq {code : Code} {x y : IL} (hc : stC P qt code = some (.seq x y)) : ∃ a b, code = .seq a b ∧ stC P qt a = some x ∧ stC P qt b = some y := by
 cases code with
 | region id os d => cases d <;> simp [stC] at hc
 | seq a b =>
  simp only [stC] at hc
  split at hc
  ·rename_i p q hp hq; cases hc; exact ⟨a, b, rfl, hp, hq⟩
  ·cases hc
 | _ => simp only [stC] at hc <;> (repeat' split at hc) <;> first | (cases hc; done) | (simp at hc; done)
theorem inv_ite {code : Code} {c : Operand} {x y : IL} (hc : stC P qt code = some (.ite c x y)) : ∃ a b, code = .cond c a b ∧ opdOK c = true ∧ stC P qt a = some x ∧ stC P qt b = some y := by
 cases code with
 | region id os d => cases d <;> simp [stC] at hc
 | cond c' a b =>
  simp only [stC] at hc
  split at hc
  ·rename_i ho
   split at hc
   ·rename_i p q hp hq; cases hc; exact ⟨a, b, rfl, ho, hp, hq⟩
   ·cases hc
  ·cases hc
 | _ => simp only [stC] at hc <;> (repeat' split at hc) <;> first | (cases hc; done) | (simp at hc; done)
theorem inv_block {code : Code} {id : Nat} {x : IL} (hc : stC P qt code = some (.block id x)) : ∃ b, code = .block id b ∧ stC P qt b = some x := by
 cases code with
 | region id os d => cases d <;> simp [stC] at hc
 | block id' b =>
  simp only [stC] at hc
  cases hs : stC P qt b with
  | none => rw [hs] at hc; cases hc
  | some l => rw [hs] at hc; cases hc; exact ⟨b, rfl, hs⟩
 | _ => simp only [stC] at hc <;> (repeat' split at hc) <;> first | (cases hc; done) | (simp at hc; done)
theorem inv_loop {code : Code} {x : IL} (hc : stC P qt code = some (.loop x)) : ∃ b, code = .loop b ∧ stC P qt b = some x := by
 cases code with
 | region id os d => cases d <;> simp [stC] at hc
 | loop b =>
  simp only [stC] at hc
  cases hs : stC P qt b with
  | none => rw [hs] at hc; cases hc
  | some l => rw [hs] at hc; cases hc; exact ⟨b, rfl, hs⟩
 | _ => simp only [stC] at hc <;> (repeat' split at hc) <;> first | (cases hc; done) | (simp at hc; done)
theorem inv_exit {code : Code} {id : Nat} (hc : stC P qt code = some (.exit id)) : code = .exit id := by
 cases code with
 | region id os d => cases d <;> simp [stC] at hc
 | exit id' => cases hc; rfl
 | _ => simp only [stC] at hc <;> (repeat' split at hc) <;> first | (cases hc; done) | (simp at hc; done)
theorem inv_ret {code : Code} (hc : stC P qt code = some .ret) : code = .ret := by
 cases code with
 | region id os d => cases d <;> simp [stC] at hc
 | ret => rfl
 | _ => simp only [stC] at hc <;> (repeat' split at hc) <;> first | (cases hc; done) | (simp at hc; done)
theorem TI.skip {Q : Post} (q : Q .normal t h) : TI P qt .skip Q t h := by
 intro code hc
 have hcode := inv_skip hc
 subst hcode
 exact fun ι a w R => wp_skip ⟨t, h, ι, q, R, Ext.refl ι h w⟩
theorem TI.exit {Q : Post} {id : Nat} (q : Q (.exit id) t h) : TI P qt (.exit id) Q t h := by
 intro code hc
 have hcode := inv_exit hc
 subst hcode
 exact fun ι a w R => wp_exit ⟨t, h, ι, q, R, Ext.refl ι h w⟩
theorem TI.ret {Q : Post} (q : Q .ret t h) : TI P qt .ret Q t h := by
 intro code hc
 have hcode := inv_ret hc
 subst hcode
 exact fun ι a w R => wp_ret ⟨t, h, ι, q, R, Ext.refl ι h w⟩
theorem TI.reg {Γ : Env} (hΓ : EnvOk P Γ) {Q : Post} {ops : List IOp} {t' : Fr} {h' : Heap} (e : runR Γ ops t h = some (t', h')) (q : Q .normal t' h') : TI P qt (.reg ops) Q t h := by
 intro code hc
 obtain ⟨id, os, rfl, hs⟩ := inv_reg hc
 exact fun ι a w R => wp_region_list (region_sim hΓ os.toList ops t h ι a w hs e R fun ι' a' w' R' E' => ⟨t', h', ι', q, R', E'⟩)
theorem TI.dreg (hm : P.follows .mixedOrders = true) {Γ : Env} (hΓ : EnvOk P Γ) (hq : QuietEnv qt Γ) {Q : Post} {ops : List IOp} {X : List (Nat × Nat)} {t' : Fr} {h' : Heap} (e : runR Γ ops t h = some (t', h'))
  (hx : CrossOk Γ ops X t h) (q : Q .normal t' h') : TI P qt (.dreg ops X) Q t h := by
 intro code hc
 obtain ⟨id, os, rfl, hs⟩ := inv_dreg hc
 exact fun ι a w R => dreg_sim hm hΓ hq hs e hx R fun ι' a' w' R' E' => ⟨t', h', ι', q, R', E'⟩
def thenP (K : Fr → Heap → Prop) (Q : Post) : Post
 | .normal, t, h => K t h
 | e, t, h => Q e t h
theorem TI.seq {Q : Post} {x y : IL} (k : TI P qt x (thenP (fun t h => TI P qt y Q t h) Q) t h) : TI P qt (.seq x y) Q t h := by
 intro code hc
 obtain ⟨a0, b0, rfl, hx, hy⟩ := inv_seq hc
 intro ι a w R
 refine wp_seq (wp_mono (k a0 hx ι a w R) fun e a1 w1 ⟨t1, h1, ι1, q, R1, E1⟩ => ?_)
 cases e with
 | normal => exact wp_mono (q b0 hy ι1 a1 w1 R1) fun e a2 w2 ⟨t2, h2, ι2, q2, R2, E2⟩ => ⟨t2, h2, ι2, q2, R2, E1.trans E2⟩
 | _ => exact ⟨t1, h1, ι1, q, R1, E1⟩
theorem TI.ite {Q : Post} {c : Operand} {x y : IL} {b : Bool} (hb : ev t c = .bool b) (k1 : b = true → TI P qt x Q t h) (k2 : b = false → TI P qt y Q t h) : TI P qt (.ite c x y) Q t h := by
 intro code hc
 obtain ⟨a0, b0, rfl, ho, hx, hy⟩ := inv_ite hc
 intro ι a w R
 have hv := ev_sim R.fr ho
 rw [hb] at hv
 exact wp_cond_split hv.bool_inv (fun q => k1 q a0 hx ι a w R) (fun q => k2 q b0 hy ι a w R)
def blockP (id : Nat) (Q : Post) : Post
 | .exit i, t, h => if i = id then Q .normal t h else Q (.exit i) t h
 | e, t, h => Q e t h
theorem TI.block {Q : Post} {id : Nat} {x : IL} (k : TI P qt x (blockP id Q) t h) : TI P qt (.block id x) Q t h := by
 intro code hc
 obtain ⟨b0, rfl, hx⟩ := inv_block hc
 intro ι a w R
 refine wp_block (wp_mono (k b0 hx ι a w R) fun e a1 w1 ⟨t1, h1, ι1, q, R1, E1⟩ => ?_)
 cases e with
 | exit i =>
  simp only [blockP] at q
  simp only [Exit.inBlock]
  split
  ·rename_i hi; rw [if_pos hi] at q; exact ⟨t1, h1, ι1, q, R1, E1⟩
  ·rename_i hi; rw [if_neg hi] at q; exact ⟨t1, h1, ι1, q, R1, E1⟩
 | _ => exact ⟨t1, h1, ι1, q, R1, E1⟩
open Classical in
theorem TI.loop {Q : Post} {x : IL} (Inv : Nat → Fr → Heap → Prop) (n : Nat) (h0 : Inv n t h)
  (round : ∀ k t h, Inv k t h → TI P qt x (thenP (fun t' h' => ∃ k', k' < k ∧ Inv k' t' h') Q) t h) : TI P qt (.loop x) Q t h := by
 intro code hc
 obtain ⟨b0, rfl, hx⟩ := inv_loop hc
 intro ι a w R
 let J : Nat → Act → World → Prop := fun k a1 w1 => ∃ t1 h1 ι1, Inv k t1 h1 ∧ Rel ι1 t1 h1 a1 w1 ∧ Ext ι h w ι1 h1 w1
 let μ : Act → World → Nat := fun a1 w1 => if q : ∃ m, J m a1 w1 ∧ ∀ k, J k a1 w1 → m ≤ k then q.choose else 0
 refine wp_loop (fun a1 w1 => ∃ k, J k a1 w1) μ ⟨n, t, h, ι, h0, R, Ext.refl ι h w⟩ fun a1 w1 ⟨k0, hk0⟩ => ?_
 have q := least (p := fun k => J k a1 w1) k0 hk0
 have hμ : μ a1 w1 = q.choose := dif_pos q
 obtain ⟨t1, h1, ι1, hi, R1, E1⟩ := q.choose_spec.1
 refine wp_mono (round _ t1 h1 hi b0 hx ι1 a1 w1 R1) fun e a2 w2 ⟨t2, h2, ι2, q2, R2, E2⟩ => ?_
 cases e with
 | normal =>
  obtain ⟨k', hk, hi2⟩ := q2
  have hj : J k' a2 w2 := ⟨t2, h2, ι2, hi2, R2, E1.trans E2⟩
  refine ⟨⟨k', hj⟩, ?_⟩
  have q3 := least (p := fun k => J k a2 w2) k' hj
  have h3 : μ a2 w2 = q3.choose := dif_pos q3
  rw [hμ, h3]
  exact Nat.lt_of_le_of_lt (q3.choose_spec.2 k' hj) hk
 | _ => exact ⟨t2, h2, ι2, q2, R2, E1.trans E2⟩
inductive Res where
 | tmp (t : Nat)
 | cell (a : Nat) (n : Option Nat)
structure FnIL where
 ntmps : Nat
 res : List Res
 body : IL
def stRes (P : Program) : List ResultVar → Option (List Res)
 | [] => some []
 | .tmp t :: r => (stRes P r).map (.tmp t :: ·)
 | .cell a T :: r => match shT P T, stRes P r with
  | some n, some l => some (.cell a n :: l)
  | _, _ => none
def stF (P : Program) (qt : List Nat) (f : FuncId) : Option FnIL :=
 match P.funcs[f]? with
 | some fn => match fn.body with
  | some c => if fn.name == "runtime.NumGoroutine" then none else match stC P qt c, stRes P fn.results.toList with
   | some x, some rs => some ⟨fn.ntmps, rs, x⟩
   | _, _ => none
  | none => none
 | none => none
def resA1 (t : Fr) (h : Heap) : Res → Option Value
 | .tmp i => some (t.getD i undef)
 | .cell a n => pureA (.load (.tmp a) n) t h
def resAs (t : Fr) (h : Heap) : List Res → Option (List Value)
 | [] => some []
 | r :: l => match resA1 t h r, resAs t h l with
  | some v, some vs => some (v :: vs)
  | _, _ => none
def resA (t : Fr) (h : Heap) (rs : List Res) : Option Value :=
 match resAs t h rs with
 | some [v] => some v
 | some vs => if vs.all noTup then some (.tuple ⟨vs⟩) else none
 | none => none
end Go.Am
namespace Go.Am
set_option linter.all false
variable {P : Program} {ι : Map} {h : Heap} {w w' : World} {t : Fr} {a : Act} {qt : List Nat}
def resF (tmps : Array Value) : ResultVar → Sem Value
 | .tmp t => pure (tmps.getD t undef)
 | .cell x t => do loadVar t (← asAddr (tmps.getD x undef))
theorem results_eq (fn : Func) (tmps : Array Value) : results fn tmps = (do let vs ← fn.results.mapM (resF tmps); pure (if h : vs.size = 1 then vs[0] else .tuple vs)) := rfl
theorem res_sim (H : HR ι h w) (hF : F2 (VR ι) t a.tmps.toList) : ∀ (l : List ResultVar) (rs : List Res) (vs : List Value), stRes P l = some rs → resAs t h rs = some vs →
  ∃ vs', (l.mapM (resF a.tmps)).run P w = .ok vs' w ∧ F2 (VR ι) vs vs'
 | [], rs, vs, hs, hr => by cases hs; cases hr; exact ⟨[], by simp, .nil⟩
 | .tmp i :: l, rs, vs, hs, hr => by
  simp only [stRes] at hs
  cases hl : stRes P l with
  | none => rw [hl] at hs; cases hs
  | some rl =>
   rw [hl] at hs
   cases hs
   simp only [resAs, resA1] at hr
   split at hr
   ·rename_i v vl hv hvl
    cases hv
    cases hr
    obtain ⟨vs', h1, h2⟩ := res_sim H hF l rl vl hl hvl
    refine ⟨a.tmps.getD i undef :: vs', ?_, .cons ?_ h2⟩
    ·simp only [List.mapM_cons, resF, Sem.run_bind, Sem.run_pure, Result.andThen_ok, h1]
    ·rw [getD_toList]; exact hF.getD i _ _ (VR.undef ι)
   ·cases hr
 | .cell x T :: l, rs, vs, hs, hr => by
  simp only [stRes] at hs
  split at hs
  ·rename_i n rl hn hl
   cases hs
   simp only [resAs, resA1] at hr
   split at hr
   ·rename_i v vl hv hvl
    cases hr
    obtain ⟨vs', h1, h2⟩ := res_sim H hF l rl vl hl hvl
    have hx := ev_sim (x := .tmp x) hF rfl
    have key : ∃ v', (resF a.tmps (.cell x T)).run P w = .ok v' w ∧ VR ι v v' := by
     simp only [pureA] at hv
     simp only [resF]
     split at hv
     ·rename_i p hp
      obtain ⟨B, o, s⟩ := p
      rw [hp] at hx
      obtain ⟨v', g1, g2⟩ := sim_load1 (P := P) H hn hx hv
      obtain ⟨_, lo, _, hx'⟩ := hx.ptr_inv
      have hx2 : a.tmps.getD x undef = .pointer (some ⟨lo.b, lo.base + o, none⟩) := hx'
      rw [hx'] at g1
      refine ⟨v', ?_, g2⟩
      rw [hx2]
      simpa [asAddr, Instr.loadAt, Instr.sureAddr] using g1
     ·rename_i p n hp
      split at hv
      ·rename_i q hq
       cases hv
       rw [hp] at hx
       obtain ⟨v', g1, g2⟩ := sim_loadN (P := P) H hn hx hq
       obtain ⟨B, o, s⟩ := p
       obtain ⟨_, lo, _, hx'⟩ := hx.ptr_inv
       have hx2 : a.tmps.getD x undef = .pointer (some ⟨lo.b, lo.base + o, none⟩) := hx'
       rw [hx'] at g1
       refine ⟨v', ?_, g2⟩
       rw [hx2]
       simpa [asAddr, Instr.loadAt, Instr.sureAddr] using g1
      ·cases hv
     ·cases hv
    obtain ⟨v', k1, k2⟩ := key
    refine ⟨v' :: vs', ?_, .cons k2 h2⟩
    simp only [List.mapM_cons]
    rw [Sem.run_bind, k1]
    simp only [Result.andThen_ok, Sem.run_bind, h1, Sem.run_pure]
   ·cases hr
  ·cases hs
theorem results_sim {fn : Func} {rs : List Res} {v : Value} (H : HR ι h w) (hF : F2 (VR ι) t a.tmps.toList) (hs : stRes P fn.results.toList = some rs) (hr : resA t h rs = some v) :
  ∃ v', (results fn a.tmps).run P w = .ok v' w ∧ VR ι v v' := by
 unfold resA at hr
 have fin : ∀ vs', (fn.results.toList.mapM (resF a.tmps)).run P w = .ok vs' w → (results fn a.tmps).run P w = .ok (if q : vs'.length = 1 then vs'[0] else .tuple ⟨vs'⟩) w := by
  intro vs' hrun
  rw [results_eq, Array.mapM_eq_mapM_toList]
  simp only [Sem.run_bind, Sem.run_map, hrun, Result.andThen_ok, Sem.run_pure]
  rfl
 split at hr
 ·rename_i u hu
  cases hr
  obtain ⟨vs', h1, h2⟩ := res_sim (P := P) H hF _ _ _ hs hu
  cases h2 with
  | cons hv hn =>
   cases hn
   exact ⟨_, fin _ h1, hv⟩
 ·rename_i vs hn1 hu
  split at hr
  ·rename_i hall
   cases hr
   obtain ⟨vs', h1, h2⟩ := res_sim (P := P) H hF _ _ _ hs hu
   refine ⟨_, fin _ h1, ?_⟩
   have hlen := h2.length
   have hne : ¬ vs'.length = 1 := by
    intro q
    cases h2 with
    | nil => simp at q
    | cons hv hn => cases hn with
     | nil => exact hn1 _ rfl
     | cons _ _ => simp at q
   rw [dif_neg hne]
   refine .tup ?_
   have : ∀ {l l' : List Value}, F2 (VR ι) l l' → l.all noTup = true → F2 (VA ι) l l' := by
    intro l l' hf
    induction hf with
    | nil => intro _; exact .nil
    | cons hv _ ih =>
     intro hq
     simp only [List.all_cons, Bool.and_eq_true] at hq
     exact .cons (hv.va_of hq.1) (ih hq.2)
   exact this h2 hall
  ·cases hr
 ·cases hr
theorem fn_sim {f : FuncId} {F : FnIL} {args : List Value} {R : Value → Heap → Prop} (hf : stF P qt f = some F)
  (k : TI P qt F.body (fun e t' h' => (e = .normal ∨ e = .ret) ∧ ∃ v, resA t' h' F.res = some v ∧ R v h') (args ++ List.replicate (F.ntmps - args.length) undef) h) : Sim P f args h R := by
 unfold stF at hf
 split at hf
 ·rename_i fn hfn
  split at hf
  ·rename_i c hc
   split at hf
   ·cases hf
   ·rename_i hname
    split at hf
    ·rename_i x rs hx hrs
     cases hf
     refine ⟨by simp [callable, hfn, hc, hname], fun ι w args' hA H => ?_⟩
     have hal := hA.length
     refine calls_of_wp hfn hc ?_
     have hrel : Rel ι (args ++ List.replicate (fn.ntmps - args.length) undef) h { tmps := ⟨args'⟩ ++ Array.replicate (fn.ntmps - (⟨args'⟩ : Array Value).size) undef, defers := [] } w := by
      refine ⟨?_, rfl, H⟩
      simp only [Array.toList_append, Array.toList_replicate, List.size_toArray, ← hal]
      exact hA.append (F2.replicate _ _ _ (VR.undef ι))
     refine wp_mono (k c hx ι _ w hrel) fun e a' w' ⟨t', h', ι', ⟨he, v, hv, hR⟩, R', E'⟩ => ?_
     obtain ⟨v', r1, r2⟩ := results_sim R'.hr R'.fr hrs hv
     have : a'.defers = [] ∧ ∃ u, (results fn a'.tmps).run P w' = .ok u w' ∧ ∃ v v' h' ι', R v h' ∧ Ending.returned u = .returned v' ∧ VR ι' v v' ∧ HR ι' h' w' ∧ Ext ι h w ι' h' w' :=
      ⟨R'.defers, v', r1, v, v', h', ι', hR, rfl, r2, R'.hr, E'⟩
     rcases he with rfl | rfl
     ·exact this
     ·exact this
    ·cases hf
  ·cases hf
 ·cases hf
theorem Sim.cut {f : FuncId} {args : List Value} {R R' : Value → Heap → Prop} (k : Sim P f args h R)
  (hc : ∀ v h', R v h' → h.length ≤ h'.length ∧ belowV h.length v = true ∧ (h'.take h.length).all (belowB h.length) = true ∧ R' v (h'.take h.length)) : Sim P f args h R' := by
 refine ⟨k.1, fun ι w args' hA H => (k.2 ι w args' hA H).mono fun e w' ⟨v, v', h', ι', r1, r2, r3, r4, r5⟩ => ?_⟩
 obtain ⟨c1, c2, c3, c4⟩ := hc v h' r1
 exact ⟨v, v', _, _, c4, r2, r3.cut c2, r4.cut _ c1 c3, r5.cut H⟩
theorem Sim.mono {f : FuncId} {args : List Value} {R R' : Value → Heap → Prop} (k : Sim P f args h R) (hc : ∀ v h', R v h' → R' v h') : Sim P f args h R' :=
 ⟨k.1, fun ι w args' hA H => (k.2 ι w args' hA H).mono fun e w' ⟨v, v', h', ι', r1, r⟩ => ⟨v, v', h', ι', hc _ _ r1, r⟩⟩
inductive Ex where
 | normal | ret
 | exit (id : Nat)
def Ex.ex : Ex → Exit
 | .normal => .normal
 | .ret => .ret
 | .exit id => .exit id
def eq0 : Value → Value → Bool
 | .bool a, .bool b => a == b
 | .int k a, .int l b => decide (k = l) && decide (a = b)
 | .string a, .string b => decide (a = b)
 | .pointer none, .pointer none => true
 | .pointer (some a), .pointer (some b) => decide (a = b)
 | .slice none a b, .slice none c d => decide (a = c) && decide (b = d)
 | .slice (some x) a b, .slice (some y) c d => decide (x = y) && decide (a = c) && decide (b = d)
 | .nilFunc, .nilFunc => true
 | .nilIface, .nilIface => true
 | _, _ => false
def eqL {α : Type} (e : α → α → Bool) : List α → List α → Bool
 | [], [] => true
 | a :: l, b :: m => e a b && eqL e l m
 | _, _ => false
def eqAg : Value → Value → Bool
 | .agg a, .agg b => eqL eq0 a.toList b.toList
 | a, b => eq0 a b
def eqV : Value → Value → Bool
 | .tuple a, .tuple b => eqL eqAg a.toList b.toList
 | a, b => eqAg a b
theorem eq0_eq {a b : Value} (e : eq0 a b = true) : a = b := by
 unfold eq0 at e
 split at e <;> simp_all
theorem eqL_eq {α : Type} {q : α → α → Bool} (hq : ∀ a b, q a b = true → a = b) : ∀ (l m : List α), eqL q l m = true → l = m
 | [], [], _ => rfl
 | a :: l, b :: m, e => by
  simp only [eqL, Bool.and_eq_true] at e
  rw [hq _ _ e.1, eqL_eq hq l m e.2]
 | [], _ :: _, e => by cases e
 | _ :: _, [], e => by cases e
theorem eqAg_eq {a b : Value} (e : eqAg a b = true) : a = b := by
 unfold eqAg at e
 split at e
 ·rename_i x y
  have := eqL_eq (fun _ _ => eq0_eq) _ _ e
  cases x; cases y; simp at this; rw [this]
 ·exact eq0_eq e
theorem eqV_eq {a b : Value} (e : eqV a b = true) : a = b := by
 unfold eqV at e
 split at e
 ·rename_i x y
  have := eqL_eq (fun _ _ => eqAg_eq) _ _ e
  cases x; cases y; simp at this; rw [this]
 ·exact eqAg_eq e
def eqB : Option Blk → Option Blk → Bool
 | none, none => true
 | some a, some b => decide (a.kind = b.kind) && eqL eqAg a.cells b.cells
 | _, _ => false
theorem eqB_eq {a b : Option Blk} (e : eqB a b = true) : a = b := by
 cases a with
 | none => cases b with
  | none => rfl
  | some y => cases e
 | some x => cases b with
  | none => cases e
  | some y =>
   simp only [eqB, Bool.and_eq_true, decide_eq_true_eq] at e
   have := eqL_eq (fun _ _ => eqAg_eq) _ _ e.2
   obtain ⟨e1, _⟩ := e
   cases x; cases y; simp_all
def crossB (Γ : Env) (os : List IOp) (t : Fr) (h : Heap) : List (Nat × Nat) → Bool
 | [] => true
 | (i, j) :: r => (match os[i]?, runR Γ (os.take i) t h, runR Γ (os.take (if i < j then j + 1 else j)) t h with
  | some x, some (ti, hi), some (_, hj) => if want ti x.g then match opA Γ x.k ti hi, opA Γ x.k ti hj with
   | some (v, _), some (v', _) => eqV v v'
   | _, _ => false
   else true
  | _, _, _ => false) && crossB Γ os t h r
theorem crossB_ok {Γ : Env} {os : List IOp} : ∀ (X : List (Nat × Nat)), crossB Γ os t h X = true → CrossOk Γ os X t h
 | [], _ => fun p hp => by cases hp
 | (i, j) :: r, e => by
  simp only [crossB, Bool.and_eq_true] at e
  intro p hp
  rcases List.mem_cons.1 hp with rfl | hp
  ·intro x ti hi tj hj hx h1 h2 hw v g hv
   have e1 := e.1
   rw [hx, h1, h2] at e1
   simp only [hw, if_true, hv] at e1
   split at e1
   ·rename_i heq hv'
    cases heq
    rw [← eqV_eq e1] at hv'
    exact ⟨_, hv'⟩
   ·cases e1
  ·exact crossB_ok r e.2 p hp
def execF (Γ : Env) : Nat → IL → Fr → Heap → Option (Ex × Fr × Heap)
 | 0, _, _, _ => none
 | _ + 1, .skip, t, h => some (.normal, t, h)
 | _ + 1, .reg ops, t, h => match runR Γ ops t h with
  | some (t', h') => some (.normal, t', h')
  | none => none
 | _ + 1, .dreg ops X, t, h => if crossB Γ ops t h X then match runR Γ ops t h with
  | some (t', h') => some (.normal, t', h')
  | none => none
  else none
 | n + 1, .seq x y, t, h => match execF Γ n x t h with
  | some (.normal, t', h') => execF Γ n y t' h'
  | r => r
 | n + 1, .ite c x y, t, h => match ev t c with
  | .bool true => execF Γ n x t h
  | .bool false => execF Γ n y t h
  | _ => none
 | n + 1, .block id x, t, h => match execF Γ n x t h with
  | some (.exit i, t', h') => if i = id then some (.normal, t', h') else some (.exit i, t', h')
  | r => r
 | n + 1, .loop x, t, h => match execF Γ n x t h with
  | some (.normal, t', h') => execF Γ n (.loop x) t' h'
  | r => r
 | _ + 1, .exit id, t, h => some (.exit id, t, h)
 | _ + 1, .ret, t, h => some (.ret, t, h)
theorem execF_sim (hm : P.follows .mixedOrders = true) {Γ : Env} (hΓ : EnvOk P Γ) (hq : QuietEnv qt Γ) : ∀ (n : Nat) (x : IL) (t : Fr) (h : Heap) (e : Ex) (t' : Fr) (h' : Heap) (Q : Post), execF Γ n x t h = some (e, t', h') → Q e.ex t' h' → TI P qt x Q t h := by
 intro n
 induction n using Nat.strongRecOn with
 | _ n ih =>
  intro x t h e t' h' Q hx hQ
  cases n with
  | zero => cases hx
  | succ n =>
   cases x with
   | skip => cases hx; exact .skip hQ
   | reg ops =>
    simp only [execF] at hx
    split at hx
    ·rename_i t1 h1 hr; cases hx; exact .reg hΓ hr hQ
    ·cases hx
   | dreg ops X =>
    simp only [execF] at hx
    split at hx
    ·rename_i hcr
     split at hx
     ·rename_i t1 h1 hr; cases hx; exact .dreg hm hΓ hq hr (crossB_ok X hcr) hQ
     ·cases hx
    ·cases hx
   | seq x y =>
    simp only [execF] at hx
    split at hx
    ·rename_i t1 h1 h1x
     exact .seq (ih n (by omega) x t h _ t1 h1 _ h1x (ih n (by omega) y t1 h1 e t' h' Q hx hQ))
    ·rename_i r hne
     refine .seq (ih n (by omega) x t h e t' h' _ hx ?_)
     cases e with
     | normal => exact absurd hx (hne t' h')
     | _ => exact hQ
   | ite c x y =>
    simp only [execF] at hx
    split at hx
    ·rename_i hb; exact .ite hb (fun _ => ih n (by omega) x t h e t' h' Q hx hQ) (fun q => by cases q)
    ·rename_i hb; exact .ite hb (fun q => by cases q) (fun _ => ih n (by omega) y t h e t' h' Q hx hQ)
    ·cases hx
   | block id x =>
    simp only [execF] at hx
    split at hx
    ·rename_i i t1 h1 h1x
     refine .block (ih n (by omega) x t h _ t1 h1 _ h1x ?_)
     simp only [Ex.ex, blockP]
     split at hx
     ·rename_i hi; cases hx; rw [if_pos hi]; exact hQ
     ·rename_i hi; cases hx; rw [if_neg hi]; exact hQ
    ·rename_i r hne
     refine .block (ih n (by omega) x t h e t' h' _ hx ?_)
     cases e with
     | exit i => exact absurd hx (hne i t' h')
     | _ => exact hQ
   | loop x =>
    refine .loop (fun k t1 h1 => k ≤ n + 1 ∧ execF Γ k (.loop x) t1 h1 = some (e, t', h')) (n + 1) ⟨Nat.le_refl _, hx⟩ fun k t1 h1 ⟨hk, hi⟩ => ?_
    cases k with
    | zero => cases hi
    | succ k =>
     simp only [execF] at hi
     split at hi
     ·rename_i t2 h2 h2x
      exact ih k (by omega) x t1 h1 _ t2 h2 _ h2x ⟨k, by omega, by omega, hi⟩
     ·rename_i r hne
      refine ih k (by omega) x t1 h1 e t' h' _ hi ?_
      cases e with
      | normal => exact absurd hi (hne t' h')
      | _ => exact hQ
   | exit id => cases hx; exact .exit hQ
   | ret => cases hx; exact .ret hQ
abbrev Tab := List (Nat × FnIL)
def Tab.find (T : Tab) (f : Nat) : Option FnIL := match T with
 | [] => none
 | (g, F) :: r => if f = g then some F else Tab.find r f
def TabOk (P : Program) (qt : List Nat) (T : Tab) : Prop := ∀ f F, T.find f = some F → stF P qt f = some F
def letGo (h : Heap) (v : Value) (h' : Heap) : Bool := h.length ≤ h'.length && belowV h.length v && (h'.take h.length).all (belowB h.length)
def fnF (T : Tab) (qt : List Nat) (fuel : Nat) : Nat → Env
 | 0 => fun _ _ _ => none
 | n + 1 => fun f args h => match T.find f with
  | some F => match execF (fnF T qt fuel n) fuel F.body (args ++ List.replicate (F.ntmps - args.length) undef) h with
   | some (e, t', h') => match e with
    | .exit _ => none
    | _ => match resA t' h' F.res with
     | some v => if letGo h v h' then (if qt.contains f then (if eqL eqB (h'.take h.length) h then some (v, h) else none) else some (v, h'.take h.length)) else (if qt.contains f then none else some (v, h'))
     | none => none
   | none => none
  | none => none
theorem fnF_quiet {T : Tab} {fuel : Nat} : ∀ n, QuietEnv qt (fnF T qt fuel n)
 | 0 => fun f args h v h' _ e => by cases e
 | n + 1 => fun f args h v h' hf e => by
  simp only [fnF, hf, if_true] at e
  repeat' split at e
  all_goals first | (cases e; done) | (cases e; rfl)
theorem fnF_ok (hm : P.follows .mixedOrders = true) {T : Tab} (hT : TabOk P qt T) (fuel : Nat) : ∀ n, EnvOk P (fnF T qt fuel n)
 | 0 => fun f args h v h' e => by cases e
 | n + 1 => fun f args h v h' e => by
  simp only [fnF] at e
  split at e
  ·rename_i F hF
   split at e
   ·rename_i ex t1 h1 hx
    have key : ∀ (hne : ex = .normal ∨ ex = .ret), (match resA t1 h1 F.res with
     | some v => if letGo h v h1 then (if qt.contains f then (if eqL eqB (h1.take h.length) h then some (v, h) else none) else some (v, h1.take h.length)) else (if qt.contains f then none else some (v, h1))
     | none => none) = some (v, h') → Sim P f args h fun v1 h2 => v1 = v ∧ h2 = h' := by
     intro hne e
     split at e
     ·rename_i v0 hv
      have base : Sim P f args h fun v1 h2 => v1 = v0 ∧ h2 = h1 := fn_sim (hT f F hF) (execF_sim hm (fnF_ok hm hT fuel n) (fnF_quiet n) fuel F.body _ h ex t1 h1 _ hx ⟨by rcases hne with rfl | rfl <;> simp [Ex.ex], v0, hv, rfl, rfl⟩)
      split at e
      ·rename_i hc
       unfold letGo at hc
       simp only [Bool.and_eq_true, decide_eq_true_eq] at hc
       have bc : Sim P f args h fun v1 h2 => v1 = v0 ∧ h2 = h1.take h.length := base.cut fun v1 h2 ⟨q1, q2⟩ => by subst q1; subst q2; exact ⟨hc.1.1, hc.1.2, hc.2, rfl, rfl⟩
       split at e
       ·split at e
        ·rename_i heq
         cases e
         have := eqL_eq (fun _ _ => eqB_eq) _ _ heq
         exact bc.mono fun v1 h2 ⟨q1, q2⟩ => ⟨q1, q2.trans this⟩
        ·cases e
       ·cases e; exact bc
      ·split at e
       ·cases e
       ·cases e; exact base
     ·cases e
    cases ex with
    | exit i => cases e
    | normal => exact key (.inl rfl) e
    | ret => exact key (.inr rfl) e
   ·cases e
  ·cases e
end Go.Am
namespace Go.Am
set_option linter.all false
variable {P : Program}
theorem HR.nil (w : World) : HR (fun _ => none) [] w :=
 ⟨fun _ _ e => (by cases e), fun B blk e => (by simp at e), fun B1 B2 b1 b2 l1 l2 e => (by simp at e)⟩
theorem Ext.below {ι ι' : Map} {h h' : Heap} {w w' : World} (E : Ext ι h w ι' h' w') (ro : ∀ (B : Nat) (blk : Blk), h[B]? = some (some blk) → blk.kind = .ro) : Go.RowKit.Below w.heap.size w w' :=
 ⟨E.os, E.tape, E.output, E.size, fun k hk => E.frame k hk fun B blk l hB hr _ => absurd (ro B blk hB) hr⟩
theorem Sim.law {f : FuncId} {args : List Value} {h : Heap} (s : Sim P f args h fun v _ => v = .bool true) {ι : Map} {w : World} {args' : List Value} (hA : F2 (VR ι) args args') (H : HR ι h w)
  (ro : ∀ (B : Nat) (blk : Blk), h[B]? = some (some blk) → blk.kind = .ro) : Calls P f ⟨args'⟩ w fun e w' => e = .returned (.bool true) ∧ Go.RowKit.Below w.heap.size w w' :=
 (s.2 ι w args' hA H).mono fun e w' ⟨v, v', h', ι', hv, he, hvr, _, E⟩ => by
  subst hv
  rw [hvr.bool_inv] at he
  exact ⟨he, E.below ro⟩
theorem TabOk.nil {qt : List Nat} : TabOk P qt [] := fun f F e => by cases e
theorem TabOk.cons {qt : List Nat} {g : Nat} {G : FnIL} {T : Tab} (h : stF P qt g = some G) (k : TabOk P qt T) : TabOk P qt ((g, G) :: T) := fun f F e => by
 unfold Tab.find at e
 split at e
 ·rename_i q
  cases e
  rw [q]
  exact h
 ·exact k f F e
end Go.Am
namespace Go.Am
set_option linter.all false
inductive Tr where
 | ret (v : Value) (h : Heap)
 | br (b : Bool) (l r : Tr)
 | req (b : Bool) (t : Tr)
 | claim (p : Prop) (t : Tr)
 | fail
def Tr.holds (Q : Value → Heap → Prop) : Tr → Prop
 | .ret v h => Q v h
 | .br b l r => (b = true → l.holds Q) ∧ (b = false → r.holds Q)
 | .req b t => b = true ∧ t.holds Q
 | .claim p t => p ∧ t.holds Q
 | .fail => False
inductive Hn where
 | sym (l r : Hn)
 | con (n : Hn)
 | yes (n : Hn)
 | no (n : Hn)
 | nil
def brT (b : Bool) (hn : Hn) (kt kf : Hn → Tr) : Tr := match hn with
 | .sym l r => .br b (kt l) (kf r)
 | .con n => match b with
  | true => kt n
  | false => kf n
 | .yes n => .req b (kt n)
 | .no n => .req (!b) (kf n)
 | .nil => .fail
theorem brT_holds {b : Bool} {hn : Hn} {kt kf : Hn → Tr} {Q : Value → Heap → Prop} (h : (brT b hn kt kf).holds Q) : (b = true ∧ ∃ n, (kt n).holds Q) ∨ (b = false ∧ ∃ n, (kf n).holds Q) := by
 unfold brT at h
 split at h
 ·cases b with
  | true => exact .inl ⟨rfl, _, h.1 rfl⟩
  | false => exact .inr ⟨rfl, _, h.2 rfl⟩
 ·cases b with
  | true => exact .inl ⟨rfl, _, h⟩
  | false => exact .inr ⟨rfl, _, h⟩
 ·exact .inl ⟨h.1, _, h.2⟩
 ·exact .inr ⟨by simpa using h.1, _, h.2⟩
 ·cases h
def wantT (t : Fr) (g : Option (Nat × Bool)) (hn : Hn) (ky kn : Fr → Hn → Tr) : Tr := match g with
 | none => ky t hn
 | some (i, p) => match t.getD i undef with
  | .bool c => brT c hn (fun n => match p with | true => ky (t.set i (.bool true)) n | false => kn (t.set i (.bool true)) n) (fun n => match p with | true => kn (t.set i (.bool false)) n | false => ky (t.set i (.bool false)) n)
  | _ => kn t hn
theorem set_same {t : Fr} {i : Nat} {v : Value} (h : t.getD i undef = v) (hv : v ≠ undef) : t.set i v = t := by
 apply List.ext_getElem?
 intro j
 rw [List.getElem?_set]
 split
 ·rename_i hij
  subst hij
  have hlt : i < t.length := by
   rcases Nat.lt_or_ge i t.length with h1 | h1
   ·exact h1
   ·unfold List.getD at h
    rw [List.getElem?_eq_none h1] at h
    exact absurd h.symm hv
  rw [if_pos hlt]
  unfold List.getD at h
  rw [List.getElem?_eq_getElem hlt] at h ⊢
  simp at h
  rw [h]
 ·rfl
theorem wantT_holds {t : Fr} {g : Option (Nat × Bool)} {hn : Hn} {ky kn : Fr → Hn → Tr} {Q : Value → Heap → Prop} (h : (wantT t g hn ky kn).holds Q) :
  (want t g = true ∧ ∃ n, (ky t n).holds Q) ∨ (want t g = false ∧ ∃ n, (kn t n).holds Q) := by
 unfold wantT at h
 split at h
 ·exact .inl ⟨rfl, _, h⟩
 ·rename_i i p
  split at h
  ·rename_i c hc
   have hs : ∀ c, t.getD i undef = .bool c → t.set i (.bool c) = t := fun c hc => set_same hc (by intro q; cases q)
   rcases brT_holds h with ⟨hb, n, hk⟩ | ⟨hb, n, hk⟩
   ·subst hb
    rw [hs _ hc] at hk
    cases p with
    | true => exact .inl ⟨by simp only [want, hc]; rfl, n, hk⟩
    | false => exact .inr ⟨by simp only [want, hc]; rfl, n, hk⟩
   ·subst hb
    rw [hs _ hc] at hk
    cases p with
    | true => exact .inr ⟨by simp only [want, hc]; rfl, n, hk⟩
    | false => exact .inl ⟨by simp only [want, hc]; rfl, n, hk⟩
  ·rename_i hne
   refine .inr ⟨?_, _, h⟩
   simp only [want]
def divT (op : BinOp) (v w : Value) (K : Value → Tr) : Tr := match v, w with
 | .int k a, .int k' b => if k = k' then .req (!(decide (b = 0))) (K (match op with | .quo => .int k (k.wrap (a.tdiv b)) | _ => .int k (a.tmod b))) else .fail
 | _, _ => .fail
abbrev Plain := List (Nat × (List Value → Option (Bool × Value)))
def Plain.find (T : Plain) (f : Nat) : List Value → Option (Bool × Value) := match T with
 | [] => fun _ => none
 | (g, S) :: r => if f = g then S else Plain.find r f
def Plain.env (T : Plain) (Γ : Env) : Env := fun f args h => match T.find f args with
 | some (b, v) => if b then some (v, h) else none
 | none => Γ f args h
def opT (T : Plain) (Γ : Env) (k : IK) (t : Fr) (h : Heap) (hn : Hn) (K : Value → Heap → Hn → Tr) : Tr :=
 match k with
 | .pick c a b => match ev t c with
  | .bool c => brT c hn (fun n => K (ev t a) h n) (fun n => K (ev t b) h n)
  | _ => .fail
 | .bin .quo x y => divT .quo (ev t x) (ev t y) fun v => K v h hn
 | .bin .rem x y => divT .rem (ev t x) (ev t y) fun v => K v h hn
 | .call f args => match T.find f (args.map (ev t)) with
  | some (b, v) => .req b (K v h hn)
  | none => match Γ f (args.map (ev t)) h with
   | some (v, h') => K v h' hn
   | none => .fail
 | k => match opA (T.env Γ) k t h with
  | some (v, h') => K v h' hn
  | none => .fail
theorem opT_holds {T : Plain} {Γ : Env} {k : IK} {t : Fr} {h : Heap} {hn : Hn} {K : Value → Heap → Hn → Tr} {Q : Value → Heap → Prop} (e : (opT T Γ k t h hn K).holds Q) :
  ∃ v h' n, opA (T.env Γ) k t h = some (v, h') ∧ (K v h' n).holds Q := by
 unfold opT at e
 split at e
 ·rename_i c a b
  split at e
  ·rename_i c' hc
   rcases brT_holds e with ⟨hb, n, hk⟩ | ⟨hb, n, hk⟩
   ·subst hb; exact ⟨_, _, n, by simp only [opA, pureA, hc]; rfl, hk⟩
   ·subst hb; exact ⟨_, _, n, by simp only [opA, pureA, hc]; rfl, hk⟩
  ·cases e
 ·rename_i x y
  unfold divT at e
  split at e
  ·rename_i k a k' b hx hy
   split at e
   ·rename_i hkk
    obtain ⟨h1, h2⟩ := e
    have hb : ¬ b = 0 := by simpa using h1
    exact ⟨_, _, _, by simp only [opA, pureA, hx, hy, binA, hkk, if_true, intBin, hb, if_false], h2⟩
   ·cases e
  ·cases e
 ·rename_i x y
  unfold divT at e
  split at e
  ·rename_i k a k' b hx hy
   split at e
   ·rename_i hkk
    obtain ⟨h1, h2⟩ := e
    have hb : ¬ b = 0 := by simpa using h1
    exact ⟨_, _, _, by simp only [opA, pureA, hx, hy, binA, hkk, if_true, intBin, hb, if_false], h2⟩
   ·cases e
  ·cases e
 ·rename_i f args
  split at e
  ·rename_i b v hv
   obtain ⟨h1, h2⟩ := e
   exact ⟨v, h, _, by simp only [opA, Plain.env, hv, h1, if_true], h2⟩
  ·rename_i hv
   split at e
   ·rename_i v h' hv2; exact ⟨v, h', _, by simp only [opA, Plain.env, hv, hv2], e⟩
   ·cases e
 ·split at e
  ·rename_i v h' hv; exact ⟨v, h', _, hv, e⟩
  ·cases e
def runT (T : Plain) (Γ : Env) : List IOp → Fr → Heap → Hn → (Fr → Heap → Hn → Tr) → Tr
 | [], t, h, hn, K => K t h hn
 | o :: r, t, h, hn, K => wantT t o.g hn (fun t n => opT T Γ o.k t h n fun v h' n => runT T Γ r (put t o.dst v) h' n K) (fun t n => runT T Γ r (put t o.dst undef) h n K)
theorem runT_holds {T : Plain} {Γ : Env} {Q : Value → Heap → Prop} {K : Fr → Heap → Hn → Tr} : ∀ (l : List IOp) (t : Fr) (h : Heap) (hn : Hn), (runT T Γ l t h hn K).holds Q → ∃ t' h' n, runR (T.env Γ) l t h = some (t', h') ∧ (K t' h' n).holds Q
 | [], t, h, hn, e => ⟨t, h, hn, rfl, e⟩
 | o :: r, t, h, hn, e => by
  simp only [runT] at e
  rcases wantT_holds e with ⟨hw, n, hk⟩ | ⟨hw, n, hk⟩
  ·obtain ⟨v, h1, n1, h2, h3⟩ := opT_holds hk
   obtain ⟨t', h', n2, h4, h5⟩ := runT_holds r _ _ _ h3
   exact ⟨t', h', n2, by simp only [runR, hw, if_true, h2, h4], h5⟩
  ·obtain ⟨t', h', n2, h4, h5⟩ := runT_holds r _ _ _ hk
   exact ⟨t', h', n2, by simp only [runR, hw, Bool.false_eq_true, if_false, h4], h5⟩
def execT (T : Plain) (Γ : Env) : Nat → IL → Fr → Heap → Hn → (Ex → Fr → Heap → Hn → Tr) → Tr
 | 0, _, _, _, _, _ => .fail
 | _ + 1, .skip, t, h, hn, K => K .normal t h hn
 | _ + 1, .reg ops, t, h, hn, K => runT T Γ ops t h hn (K .normal)
 | _ + 1, .dreg ops X, t, h, hn, K => .req (crossB (T.env Γ) ops t h X) (runT T Γ ops t h hn (K .normal))
 | n + 1, .seq x y, t, h, hn, K => execT T Γ n x t h hn fun e t' h' hn' => match e with
  | .normal => execT T Γ n y t' h' hn' K
  | e => K e t' h' hn'
 | n + 1, .ite c x y, t, h, hn, K => match ev t c with
  | .bool b => brT b hn (fun m => execT T Γ n x t h m K) (fun m => execT T Γ n y t h m K)
  | _ => .fail
 | n + 1, .block id x, t, h, hn, K => execT T Γ n x t h hn fun e t' h' hn' => match e with
  | .exit i => if i = id then K .normal t' h' hn' else K (.exit i) t' h' hn'
  | e => K e t' h' hn'
 | n + 1, .loop x, t, h, hn, K => execT T Γ n x t h hn fun e t' h' hn' => match e with
  | .normal => execT T Γ n (.loop x) t' h' hn' K
  | e => K e t' h' hn'
 | _ + 1, .exit id, t, h, hn, K => K (.exit id) t h hn
 | _ + 1, .ret, t, h, hn, K => K .ret t h hn
theorem execT_holds {T : Plain} {Γ : Env} {Q : Value → Heap → Prop} : ∀ (n : Nat) (x : IL) (t : Fr) (h : Heap) (hn : Hn) (K : Ex → Fr → Heap → Hn → Tr), (execT T Γ n x t h hn K).holds Q →
  ∃ e t' h' m, execF (T.env Γ) n x t h = some (e, t', h') ∧ (K e t' h' m).holds Q
 | 0, _, _, _, _, _, e => by cases e
 | n + 1, x, t, h, hn, K, e => by
  cases x with
  | skip => exact ⟨_, _, _, _, rfl, e⟩
  | reg ops =>
   obtain ⟨t', h', m, h1, h2⟩ := runT_holds ops t h hn e
   exact ⟨_, _, _, m, by simp only [execF, h1], h2⟩
  | dreg ops X =>
   obtain ⟨h0, e⟩ := e
   obtain ⟨t', h', m, h1, h2⟩ := runT_holds ops t h hn e
   exact ⟨_, _, _, m, by simp only [execF, h0, if_true, h1], h2⟩
  | seq x y =>
   obtain ⟨e1, t1, h1, m1, q1, q2⟩ := execT_holds n x t h hn _ e
   cases e1 with
   | normal =>
    obtain ⟨e2, t2, h2, m2, q3, q4⟩ := execT_holds n y t1 h1 m1 K q2
    exact ⟨e2, t2, h2, m2, by simp only [execF, q1, q3], q4⟩
   | ret => exact ⟨_, t1, h1, m1, by simp only [execF, q1], q2⟩
   | exit id => exact ⟨_, t1, h1, m1, by simp only [execF, q1], q2⟩
  | ite c x y =>
   simp only [execT] at e
   split at e
   ·rename_i b hb
    rcases brT_holds e with ⟨hq, m, hk⟩ | ⟨hq, m, hk⟩
    ·subst hq
     obtain ⟨e1, t1, h1, m1, q1, q2⟩ := execT_holds n x t h m K hk
     exact ⟨e1, t1, h1, m1, by simp only [execF, hb, q1], q2⟩
    ·subst hq
     obtain ⟨e1, t1, h1, m1, q1, q2⟩ := execT_holds n y t h m K hk
     exact ⟨e1, t1, h1, m1, by simp only [execF, hb, q1], q2⟩
   ·cases e
  | block id x =>
   obtain ⟨e1, t1, h1, m1, q1, q2⟩ := execT_holds n x t h hn _ e
   cases e1 with
   | normal => exact ⟨_, t1, h1, m1, by simp only [execF, q1], q2⟩
   | ret => exact ⟨_, t1, h1, m1, by simp only [execF, q1], q2⟩
   | exit i =>
    dsimp only at q2
    split at q2
    ·rename_i hi; exact ⟨_, t1, h1, m1, by simp only [execF, q1, hi, if_true], q2⟩
    ·rename_i hi; exact ⟨_, t1, h1, m1, by simp only [execF, q1, hi, if_false], q2⟩
  | loop x =>
   obtain ⟨e1, t1, h1, m1, q1, q2⟩ := execT_holds n x t h hn _ e
   cases e1 with
   | normal =>
    obtain ⟨e2, t2, h2, m2, q3, q4⟩ := execT_holds n (.loop x) t1 h1 m1 K q2
    exact ⟨e2, t2, h2, m2, by simp only [execF, q1, q3], q4⟩
   | ret => exact ⟨_, t1, h1, m1, by simp only [execF, q1], q2⟩
   | exit i => exact ⟨_, t1, h1, m1, by simp only [execF, q1], q2⟩
  | exit id => exact ⟨_, _, _, _, rfl, e⟩
  | ret => exact ⟨_, _, _, _, rfl, e⟩
def retT (h : Heap) (rs : List Res) (e : Ex) (t' : Fr) (h' : Heap) : Tr := match e with
 | .exit _ => .fail
 | _ => match resA t' h' rs with
  | some v => if letGo h v h' then .ret v (h'.take h.length) else .ret v h'
  | none => .fail
def fnT (T : Plain) (Γ : Env) (fuel : Nat) (F : FnIL) (hn : Hn) (args : List Value) (h : Heap) : Tr :=
 execT T Γ fuel F.body (args ++ List.replicate (F.ntmps - args.length) undef) h hn fun e t' h' _ => retT h F.res e t' h'
theorem fnT_sim {P : Program} {qt : List Nat} (hm : P.follows .mixedOrders = true) {T : Plain} {Γ : Env} (hΓ : EnvOk P (T.env Γ)) (hq : QuietEnv qt (T.env Γ)) {f : Nat} {F : FnIL} (hf : stF P qt f = some F) {fuel : Nat} {hn : Hn} {args : List Value} {h : Heap}
  {Q : Value → Heap → Prop} (e : (fnT T Γ fuel F hn args h).holds Q) : Sim P f args h Q := by
 obtain ⟨ex, t', h', m, h1, h2⟩ := execT_holds fuel F.body _ h hn _ e
 have key : ∀ (hne : ex = .normal ∨ ex = .ret), (match resA t' h' F.res with
   | some v => if letGo h v h' then Tr.ret v (h'.take h.length) else .ret v h'
   | none => .fail).holds Q → Sim P f args h Q := by
  intro hne e
  split at e
  ·rename_i v hv
   have base : Sim P f args h fun v1 h2 => v1 = v ∧ h2 = h' := fn_sim hf (execF_sim hm hΓ hq fuel F.body _ h ex t' h' _ h1 ⟨by rcases hne with rfl | rfl <;> simp [Ex.ex], v, hv, rfl, rfl⟩)
   split at e
   ·rename_i hc
    unfold letGo at hc
    simp only [Bool.and_eq_true, decide_eq_true_eq] at hc
    exact base.cut fun v1 h2 ⟨q1, q2⟩ => by subst q1; subst q2; exact ⟨hc.1.1, hc.1.2, hc.2, e⟩
   ·exact base.mono fun v1 h2 ⟨q1, q2⟩ => by subst q1; subst q2; exact e
  ·cases e
 cases ex with
 | exit i => cases h2
 | normal => exact key (.inl rfl) h2
 | ret => exact key (.inr rfl) h2
end Go.Am
namespace Go.Am
set_option linter.all false
variable {P : Program} {ι : Map} {h : Heap} {w w' : World}
theorem cut0_sub {ι ι' : Map} : Sub (cutM ι 0) ι' := fun B l e => by unfold cutM at e; rw [if_neg (by omega)] at e; cases e
theorem HR.kept {ι : Map} (H : HR ι h w) (hold : ∀ b, b < w.heap.size → w'.heap[b]? = w.heap[b]?) : HR ι h w' where
 dom := H.dom
 live := fun B blk e => by
  obtain ⟨l, e1, f1, f2, f3, f4, c, e2, f, f5, f6, f7, f8⟩ := H.live B blk e
  exact ⟨l, e1, f1, f2, f3, f4, c, e2, f, (hold _ (H.lt e e1)).trans f5, f6, f7, f8⟩
 apart := H.apart
theorem Sim.frame0 {f : FuncId} {args : List Value} {R : Value → Prop} (s : Sim P f args [] fun v _ => R v) (ha : args.all (belowV 0) = true) (hR : ∀ v, R v → belowV 0 v = true) (h : Heap) :
  Sim P f args h fun v h' => R v ∧ h' = h := by
 refine ⟨s.1, fun ι w args' hA H => ?_⟩
 have H0 := H.cut 0 (Nat.zero_le _) (by simp)
 have hA0 : F2 (VR (cutM ι 0)) args args' := hA.cut (fun _ _ h q => h.cut q) ha
 refine (s.2 _ w args' hA0 (by simpa using H0)).mono fun e w' ⟨v, v', h', ι', r1, r2, r3, _, r5⟩ => ?_
 have hold : ∀ b, b < w.heap.size → w'.heap[b]? = w.heap[b]? := fun b hb => r5.frame b hb fun B blk l hB => by simp at hB
 refine ⟨v, v', h, ι, ⟨r1, rfl⟩, r2, (r3.cut (hR v r1)).mono cut0_sub, H.kept hold, ?_⟩
 exact ⟨Sub.refl ι, r5.size, fun b hb _ => hold b hb, fun B blk l h1 h2 h3 => .inr ⟨B, blk, l, h1, h2, h3, rfl⟩, r5.os, r5.tape, r5.output, fun B blk l h1 h3 => .inr ⟨B, blk, l, h1, h3, rfl⟩⟩
def PlainOk (P : Program) (T : Plain) : Prop := ∀ f args v, T.find f args = some (true, v) → args.all (belowV 0) = true ∧ belowV 0 v = true ∧ Sim P f args [] fun v1 _ => v1 = v
theorem Plain.quiet {T : Plain} {Γ : Env} {qt : List Nat} (hq : QuietEnv qt Γ) : QuietEnv qt (T.env Γ) := fun f args h v h' hf e => by
 unfold Plain.env at e
 split at e
 ·split at e
  ·cases e; rfl
  ·cases e
 ·exact hq f args h v h' hf e
theorem Plain.ok {T : Plain} {Γ : Env} (hT : PlainOk P T) (hΓ : EnvOk P Γ) : EnvOk P (T.env Γ) := fun f args h v h' e => by
 unfold Plain.env at e
 split at e
 ·rename_i b u hu
  split at e
  ·rename_i hb
   subst hb
   cases e
   obtain ⟨h1, h2, h3⟩ := hT f args v hu
   exact h3.frame0 h1 (fun v1 hv => by subst hv; exact h2) h
  ·cases e
 ·exact hΓ f args h v h' e
def noEnv : Env := fun _ _ _ => none
theorem noEnv_ok : EnvOk P noEnv := fun f args h v h' e => by cases e
theorem noEnv_quiet {qt : List Nat} : QuietEnv qt noEnv := fun f args h v h' _ e => by cases e
theorem PlainOk.nil : PlainOk P [] := fun f args v e => by cases e
theorem PlainOk.cons {g : Nat} {S : List Value → Option (Bool × Value)} {T : Plain} (h : ∀ args v, S args = some (true, v) → args.all (belowV 0) = true ∧ belowV 0 v = true ∧ Sim P g args [] fun v1 _ => v1 = v) (k : PlainOk P T) :
  PlainOk P ((g, S) :: T) := fun f args v e => by
 unfold Plain.find at e
 split at e
 ·rename_i q; subst q; exact h args v e
 ·exact k f args v e
end Go.Am
