/-
  What code does, said of heaps; the rules; functions.
-/
import Derived.Test.YtjnppjipoibbeaaAm18
namespace Go.Am
set_option linter.all false

variable {P : Program} {ι : Map} {h : Heap} {w w' : World} {t : Fr} {a : Act} {qt : List Nat}

/-! ### What code does -/
abbrev Post := Exit → Fr → Heap → Prop

def T (P : Program) (c : Code) (Q : Post) (t : Fr) (h : Heap) : Prop :=
  ∀ (ι : Map) (a : Act) (w : World), Rel ι t h a w → c.wp P (fun e a' w' => ∃ t' h' ι', Q e t' h' ∧ Rel ι' t' h' a' w' ∧ Ext ι h w ι' h' w') a w

def stC (P : Program) (qt : List Nat) : Code → Option IL
  | .skip => some .skip
  | .region _ ops false => (stOps P ops ops.toList).map .reg
  | .region _ ops true => (stD P qt ops).map fun p => .dreg p.1 p.2
  | .seq a b => match stC P qt a, stC P qt b with
    | some x, some y => some (.seq x y)
    | _, _ => none
  | .cond c a b => if opdOK c then match stC P qt a, stC P qt b with
    | some x, some y => some (.ite c x y)
    | _, _ => none
    else none
  | .block id b => (stC P qt b).map (.block id)
  | .loop b => (stC P qt b).map .loop
  | .exit id => some (.exit id)
  | .ret => some .ret
  | _ => none

def TI (P : Program) (qt : List Nat) (c : IL) (Q : Post) (t : Fr) (h : Heap) : Prop := ∀ code, stC P qt code = some c → T P code Q t h

theorem T.mono {c : Code} {Q Q' : Post} (hq : ∀ e t h, Q e t h → Q' e t h) (k : T P c Q t h) : T P c Q' t h :=
  fun ι a w R => wp_mono (k ι a w R) fun e a' w' ⟨t', h', ι', q, r, x⟩ => ⟨t', h', ι', hq _ _ _ q, r, x⟩
theorem TI.mono {c : IL} {Q Q' : Post} (hq : ∀ e t h, Q e t h → Q' e t h) (k : TI P qt c Q t h) : TI P qt c Q' t h :=
  fun code hc => (k code hc).mono hq

/-! ### Inversions -/
theorem inv_reg {code : Code} {ops : List IOp} (hc : stC P qt code = some (.reg ops)) : ∃ id os, code = .region id os false ∧ stOps P os os.toList = some ops := by
  cases code with
  | region id os d =>
    cases d
    · simp only [stC] at hc
      cases hs : stOps P os os.toList with
      | none => rw [hs] at hc; cases hc
      | some l => rw [hs] at hc; cases hc; exact ⟨id, os, rfl, hs⟩
    · simp [stC] at hc
  | _ => simp only [stC] at hc <;> (repeat' split at hc) <;> first | (cases hc; done) | (simp at hc; done)
theorem inv_dreg {code : Code} {ops : List IOp} {X : List (Nat × Nat)} (hc : stC P qt code = some (.dreg ops X)) : ∃ id os, code = .region id os true ∧ stD P qt os = some (ops, X) := by
  cases code with
  | region id os d =>
    cases d
    · simp [stC] at hc
    · simp only [stC] at hc
      cases hs : stD P qt os with
      | none => rw [hs] at hc; cases hc
      | some l => rw [hs] at hc; cases hc; exact ⟨id, os, rfl, by rw [hs]⟩
  | _ => simp only [stC] at hc <;> (repeat' split at hc) <;> first | (cases hc; done) | (simp at hc; done)
theorem inv_skip {code : Code} (hc : stC P qt code = some .skip) : code = .skip := by
  cases code with
  | skip => rfl
  | region id os d => cases d <;> simp [stC] at hc
  | _ => simp only [stC] at hc <;> (repeat' split at hc) <;> first | (cases hc; done) | (simp at hc; done)
theorem inv_seq {code : Code} {x y : IL} (hc : stC P qt code = some (.seq x y)) : ∃ a b, code = .seq a b ∧ stC P qt a = some x ∧ stC P qt b = some y := by
  cases code with
  | region id os d => cases d <;> simp [stC] at hc
  | seq a b =>
    simp only [stC] at hc
    split at hc
    · rename_i p q hp hq; cases hc; exact ⟨a, b, rfl, hp, hq⟩
    · cases hc
  | _ => simp only [stC] at hc <;> (repeat' split at hc) <;> first | (cases hc; done) | (simp at hc; done)
theorem inv_ite {code : Code} {c : Operand} {x y : IL} (hc : stC P qt code = some (.ite c x y)) : ∃ a b, code = .cond c a b ∧ opdOK c = true ∧ stC P qt a = some x ∧ stC P qt b = some y := by
  cases code with
  | region id os d => cases d <;> simp [stC] at hc
  | cond c' a b =>
    simp only [stC] at hc
    split at hc
    · rename_i ho
      split at hc
      · rename_i p q hp hq; cases hc; exact ⟨a, b, rfl, ho, hp, hq⟩
      · cases hc
    · cases hc
  | _ => simp only [stC] at hc <;> (repeat' split at hc) <;> first | (cases hc; done) | (simp at hc; done)
theorem inv_block {code : Code} {id : Nat} {x : IL} (hc : stC P qt code = some (.block id x)) : ∃ b, code = .block id b ∧ stC P qt b = some x := by
  cases code with
  | region id os d => cases d <;> simp [stC] at hc
  | block id' b =>
    simp only [stC] at hc
    cases hs : stC P qt b with
    | none => rw [hs] at hc; cases hc
    | some l => rw [hs] at hc; cases hc; exact ⟨b, rfl, hs⟩
  | _ => simp only [stC] at hc <;> (repeat' split at hc) <;> first | (cases hc; done) | (simp at hc; done)
theorem inv_loop {code : Code} {x : IL} (hc : stC P qt code = some (.loop x)) : ∃ b, code = .loop b ∧ stC P qt b = some x := by
  cases code with
  | region id os d => cases d <;> simp [stC] at hc
  | loop b =>
    simp only [stC] at hc
    cases hs : stC P qt b with
    | none => rw [hs] at hc; cases hc
    | some l => rw [hs] at hc; cases hc; exact ⟨b, rfl, hs⟩
  | _ => simp only [stC] at hc <;> (repeat' split at hc) <;> first | (cases hc; done) | (simp at hc; done)
theorem inv_exit {code : Code} {id : Nat} (hc : stC P qt code = some (.exit id)) : code = .exit id := by
  cases code with
  | region id os d => cases d <;> simp [stC] at hc
  | exit id' => cases hc; rfl
  | _ => simp only [stC] at hc <;> (repeat' split at hc) <;> first | (cases hc; done) | (simp at hc; done)
theorem inv_ret {code : Code} (hc : stC P qt code = some .ret) : code = .ret := by
  cases code with
  | region id os d => cases d <;> simp [stC] at hc
  | ret => rfl
  | _ => simp only [stC] at hc <;> (repeat' split at hc) <;> first | (cases hc; done) | (simp at hc; done)

/-! ### The rules -/
theorem TI.skip {Q : Post} (q : Q .normal t h) : TI P qt .skip Q t h := by
  intro code hc
  have hcode := inv_skip hc
  subst hcode
  exact fun ι a w R => wp_skip ⟨t, h, ι, q, R, Ext.refl ι h w⟩
theorem TI.exit {Q : Post} {id : Nat} (q : Q (.exit id) t h) : TI P qt (.exit id) Q t h := by
  intro code hc
  have hcode := inv_exit hc
  subst hcode
  exact fun ι a w R => wp_exit ⟨t, h, ι, q, R, Ext.refl ι h w⟩
theorem TI.ret {Q : Post} (q : Q .ret t h) : TI P qt .ret Q t h := by
  intro code hc
  have hcode := inv_ret hc
  subst hcode
  exact fun ι a w R => wp_ret ⟨t, h, ι, q, R, Ext.refl ι h w⟩
theorem TI.reg {Γ : Env} (hΓ : EnvOk P Γ) {Q : Post} {ops : List IOp} {t' : Fr} {h' : Heap} (e : runR Γ ops t h = some (t', h')) (q : Q .normal t' h') : TI P qt (.reg ops) Q t h := by
  intro code hc
  obtain ⟨id, os, rfl, hs⟩ := inv_reg hc
  exact fun ι a w R => wp_region_list (region_sim hΓ os.toList ops t h ι a w hs e R fun ι' a' w' R' E' => ⟨t', h', ι', q, R', E'⟩)

theorem TI.dreg (hm : P.follows .mixedOrders = true) {Γ : Env} (hΓ : EnvOk P Γ) (hq : QuietEnv qt Γ) {Q : Post} {ops : List IOp} {X : List (Nat × Nat)} {t' : Fr} {h' : Heap} (e : runR Γ ops t h = some (t', h'))
    (hx : CrossOk Γ ops X t h) (q : Q .normal t' h') : TI P qt (.dreg ops X) Q t h := by
  intro code hc
  obtain ⟨id, os, rfl, hs⟩ := inv_dreg hc
  exact fun ι a w R => dreg_sim hm hΓ hq hs e hx R fun ι' a' w' R' E' => ⟨t', h', ι', q, R', E'⟩

def thenP (K : Fr → Heap → Prop) (Q : Post) : Post
  | .normal, t, h => K t h
  | e, t, h => Q e t h
theorem TI.seq {Q : Post} {x y : IL} (k : TI P qt x (thenP (fun t h => TI P qt y Q t h) Q) t h) : TI P qt (.seq x y) Q t h := by
  intro code hc
  obtain ⟨a0, b0, rfl, hx, hy⟩ := inv_seq hc
  intro ι a w R
  refine wp_seq (wp_mono (k a0 hx ι a w R) fun e a1 w1 ⟨t1, h1, ι1, q, R1, E1⟩ => ?_)
  cases e with
  | normal => exact wp_mono (q b0 hy ι1 a1 w1 R1) fun e a2 w2 ⟨t2, h2, ι2, q2, R2, E2⟩ => ⟨t2, h2, ι2, q2, R2, E1.trans E2⟩
  | _ => exact ⟨t1, h1, ι1, q, R1, E1⟩
theorem TI.ite {Q : Post} {c : Operand} {x y : IL} {b : Bool} (hb : ev t c = .bool b) (k1 : b = true → TI P qt x Q t h) (k2 : b = false → TI P qt y Q t h) : TI P qt (.ite c x y) Q t h := by
  intro code hc
  obtain ⟨a0, b0, rfl, ho, hx, hy⟩ := inv_ite hc
  intro ι a w R
  have hv := ev_sim R.fr ho
  rw [hb] at hv
  exact wp_cond_split hv.bool_inv (fun q => k1 q a0 hx ι a w R) (fun q => k2 q b0 hy ι a w R)
def blockP (id : Nat) (Q : Post) : Post
  | .exit i, t, h => if i = id then Q .normal t h else Q (.exit i) t h
  | e, t, h => Q e t h
theorem TI.block {Q : Post} {id : Nat} {x : IL} (k : TI P qt x (blockP id Q) t h) : TI P qt (.block id x) Q t h := by
  intro code hc
  obtain ⟨b0, rfl, hx⟩ := inv_block hc
  intro ι a w R
  refine wp_block (wp_mono (k b0 hx ι a w R) fun e a1 w1 ⟨t1, h1, ι1, q, R1, E1⟩ => ?_)
  cases e with
  | exit i =>
    simp only [blockP] at q
    simp only [Exit.inBlock]
    split
    · rename_i hi; rw [if_pos hi] at q; exact ⟨t1, h1, ι1, q, R1, E1⟩
    · rename_i hi; rw [if_neg hi] at q; exact ⟨t1, h1, ι1, q, R1, E1⟩
  | _ => exact ⟨t1, h1, ι1, q, R1, E1⟩

open Classical in
/-- A loop: by a count of the rounds that are left. -/
theorem TI.loop {Q : Post} {x : IL} (Inv : Nat → Fr → Heap → Prop) (n : Nat) (h0 : Inv n t h)
    (round : ∀ k t h, Inv k t h → TI P qt x (thenP (fun t' h' => ∃ k', k' < k ∧ Inv k' t' h') Q) t h) : TI P qt (.loop x) Q t h := by
  intro code hc
  obtain ⟨b0, rfl, hx⟩ := inv_loop hc
  intro ι a w R
  let J : Nat → Act → World → Prop := fun k a1 w1 => ∃ t1 h1 ι1, Inv k t1 h1 ∧ Rel ι1 t1 h1 a1 w1 ∧ Ext ι h w ι1 h1 w1
  let μ : Act → World → Nat := fun a1 w1 => if q : ∃ m, J m a1 w1 ∧ ∀ k, J k a1 w1 → m ≤ k then q.choose else 0
  refine wp_loop (fun a1 w1 => ∃ k, J k a1 w1) μ ⟨n, t, h, ι, h0, R, Ext.refl ι h w⟩ fun a1 w1 ⟨k0, hk0⟩ => ?_
  have q := least (p := fun k => J k a1 w1) k0 hk0
  have hμ : μ a1 w1 = q.choose := dif_pos q
  obtain ⟨t1, h1, ι1, hi, R1, E1⟩ := q.choose_spec.1
  refine wp_mono (round _ t1 h1 hi b0 hx ι1 a1 w1 R1) fun e a2 w2 ⟨t2, h2, ι2, q2, R2, E2⟩ => ?_
  cases e with
  | normal =>
    obtain ⟨k', hk, hi2⟩ := q2
    have hj : J k' a2 w2 := ⟨t2, h2, ι2, hi2, R2, E1.trans E2⟩
    refine ⟨⟨k', hj⟩, ?_⟩
    have q3 := least (p := fun k => J k a2 w2) k' hj
    have h3 : μ a2 w2 = q3.choose := dif_pos q3
    rw [hμ, h3]
    exact Nat.lt_of_le_of_lt (q3.choose_spec.2 k' hj) hk
  | _ => exact ⟨t2, h2, ι2, q2, R2, E1.trans E2⟩

/-! ### Functions -/
inductive Res where
  | tmp (t : Nat)
  | cell (a : Nat) (n : Option Nat)
structure FnIL where
  ntmps : Nat
  res : List Res
  body : IL

def stRes (P : Program) : List ResultVar → Option (List Res)
  | [] => some []
  | .tmp t :: r => (stRes P r).map (.tmp t :: ·)
  | .cell a T :: r => match shT P T, stRes P r with
    | some n, some l => some (.cell a n :: l)
    | _, _ => none

def stF (P : Program) (qt : List Nat) (f : FuncId) : Option FnIL :=
  match P.funcs[f]? with
  | some fn => match fn.body with
    | some c => if fn.name == "runtime.NumGoroutine" then none else match stC P qt c, stRes P fn.results.toList with
      | some x, some rs => some ⟨fn.ntmps, rs, x⟩
      | _, _ => none
    | none => none
  | none => none

def resA1 (t : Fr) (h : Heap) : Res → Option Value
  | .tmp i => some (t.getD i undef)
  | .cell a n => pureA (.load (.tmp a) n) t h
def resAs (t : Fr) (h : Heap) : List Res → Option (List Value)
  | [] => some []
  | r :: l => match resA1 t h r, resAs t h l with
    | some v, some vs => some (v :: vs)
    | _, _ => none
def resA (t : Fr) (h : Heap) (rs : List Res) : Option Value :=
  match resAs t h rs with
  | some [v] => some v
  | some vs => if vs.all noTup then some (.tuple ⟨vs⟩) else none
  | none => none

end Go.Am
