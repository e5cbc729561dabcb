/-
  Functions; letting go of what a call made; an evaluator.
-/
import Derived.Test.YtjnppjipoibbeaaAm19
namespace Go.Am
set_option linter.all false

variable {P : Program} {ι : Map} {h : Heap} {w w' : World} {t : Fr} {a : Act} {qt : List Nat}

def resF (tmps : Array Value) : ResultVar → Sem Value
  | .tmp t => pure (tmps.getD t undef)
  | .cell x t => do loadVar t (← asAddr (tmps.getD x undef))
theorem results_eq (fn : Func) (tmps : Array Value) : results fn tmps = (do let vs ← fn.results.mapM (resF tmps); pure (if h : vs.size = 1 then vs[0] else .tuple vs)) := rfl

theorem res_sim (H : HR ι h w) (hF : F2 (VR ι) t a.tmps.toList) : ∀ (l : List ResultVar) (rs : List Res) (vs : List Value), stRes P l = some rs → resAs t h rs = some vs →
    ∃ vs', (l.mapM (resF a.tmps)).run P w = .ok vs' w ∧ F2 (VR ι) vs vs'
  | [], rs, vs, hs, hr => by cases hs; cases hr; exact ⟨[], by simp, .nil⟩
  | .tmp i :: l, rs, vs, hs, hr => by
    simp only [stRes] at hs
    cases hl : stRes P l with
    | none => rw [hl] at hs; cases hs
    | some rl =>
      rw [hl] at hs
      cases hs
      simp only [resAs, resA1] at hr
      split at hr
      · rename_i v vl hv hvl
        cases hv
        cases hr
        obtain ⟨vs', h1, h2⟩ := res_sim H hF l rl vl hl hvl
        refine ⟨a.tmps.getD i undef :: vs', ?_, .cons ?_ h2⟩
        · simp only [List.mapM_cons, resF, Sem.run_bind, Sem.run_pure, Result.andThen_ok, h1]
        · rw [getD_toList]; exact hF.getD i _ _ (VR.undef ι)
      · cases hr
  | .cell x T :: l, rs, vs, hs, hr => by
    simp only [stRes] at hs
    split at hs
    · rename_i n rl hn hl
      cases hs
      simp only [resAs, resA1] at hr
      split at hr
      · rename_i v vl hv hvl
        cases hr
        obtain ⟨vs', h1, h2⟩ := res_sim H hF l rl vl hl hvl
        have hx := ev_sim (x := .tmp x) hF rfl
        have key : ∃ v', (resF a.tmps (.cell x T)).run P w = .ok v' w ∧ VR ι v v' := by
          simp only [pureA] at hv
          simp only [resF]
          split at hv
          · rename_i p hp
            obtain ⟨B, o, s⟩ := p
            rw [hp] at hx
            obtain ⟨v', g1, g2⟩ := sim_load1 (P := P) H hn hx hv
            obtain ⟨_, lo, _, hx'⟩ := hx.ptr_inv
            have hx2 : a.tmps.getD x undef = .pointer (some ⟨lo.b, lo.base + o, none⟩) := hx'
            rw [hx'] at g1
            refine ⟨v', ?_, g2⟩
            rw [hx2]
            simpa [asAddr, Instr.loadAt, Instr.sureAddr] using g1
          · rename_i p n hp
            split at hv
            · rename_i q hq
              cases hv
              rw [hp] at hx
              obtain ⟨v', g1, g2⟩ := sim_loadN (P := P) H hn hx hq
              obtain ⟨B, o, s⟩ := p
              obtain ⟨_, lo, _, hx'⟩ := hx.ptr_inv
              have hx2 : a.tmps.getD x undef = .pointer (some ⟨lo.b, lo.base + o, none⟩) := hx'
              rw [hx'] at g1
              refine ⟨v', ?_, g2⟩
              rw [hx2]
              simpa [asAddr, Instr.loadAt, Instr.sureAddr] using g1
            · cases hv
          · cases hv
        obtain ⟨v', k1, k2⟩ := key
        refine ⟨v' :: vs', ?_, .cons k2 h2⟩
        simp only [List.mapM_cons]
        rw [Sem.run_bind, k1]
        simp only [Result.andThen_ok, Sem.run_bind, h1, Sem.run_pure]
      · cases hr
    · cases hs

theorem results_sim {fn : Func} {rs : List Res} {v : Value} (H : HR ι h w) (hF : F2 (VR ι) t a.tmps.toList) (hs : stRes P fn.results.toList = some rs) (hr : resA t h rs = some v) :
    ∃ v', (results fn a.tmps).run P w = .ok v' w ∧ VR ι v v' := by
  unfold resA at hr
  have fin : ∀ vs', (fn.results.toList.mapM (resF a.tmps)).run P w = .ok vs' w → (results fn a.tmps).run P w = .ok (if q : vs'.length = 1 then vs'[0] else .tuple ⟨vs'⟩) w := by
    intro vs' hrun
    rw [results_eq, Array.mapM_eq_mapM_toList]
    simp only [Sem.run_bind, Sem.run_map, hrun, Result.andThen_ok, Sem.run_pure]
    rfl
  split at hr
  · rename_i u hu
    cases hr
    obtain ⟨vs', h1, h2⟩ := res_sim (P := P) H hF _ _ _ hs hu
    cases h2 with
    | cons hv hn =>
      cases hn
      exact ⟨_, fin _ h1, hv⟩
  · rename_i vs hn1 hu
    split at hr
    · rename_i hall
      cases hr
      obtain ⟨vs', h1, h2⟩ := res_sim (P := P) H hF _ _ _ hs hu
      refine ⟨_, fin _ h1, ?_⟩
      have hlen := h2.length
      have hne : ¬ vs'.length = 1 := by
        intro q
        cases h2 with
        | nil => simp at q
        | cons hv hn => cases hn with
          | nil => exact hn1 _ rfl
          | cons _ _ => simp at q
      rw [dif_neg hne]
      refine .tup ?_
      have : ∀ {l l' : List Value}, F2 (VR ι) l l' → l.all noTup = true → F2 (VA ι) l l' := by
        intro l l' hf
        induction hf with
        | nil => intro _; exact .nil
        | cons hv _ ih =>
          intro hq
          simp only [List.all_cons, Bool.and_eq_true] at hq
          exact .cons (hv.va_of hq.1) (ih hq.2)
      exact this h2 hall
    · cases hr
  · cases hr

theorem fn_sim {f : FuncId} {F : FnIL} {args : List Value} {R : Value → Heap → Prop} (hf : stF P qt f = some F)
    (k : TI P qt F.body (fun e t' h' => (e = .normal ∨ e = .ret) ∧ ∃ v, resA t' h' F.res = some v ∧ R v h') (args ++ List.replicate (F.ntmps - args.length) undef) h) : Sim P f args h R := by
  unfold stF at hf
  split at hf
  · rename_i fn hfn
    split at hf
    · rename_i c hc
      split at hf
      · cases hf
      · rename_i hname
        split at hf
        · rename_i x rs hx hrs
          cases hf
          refine ⟨by simp [callable, hfn, hc, hname], fun ι w args' hA H => ?_⟩
          have hal := hA.length
          refine calls_of_wp hfn hc ?_
          have hrel : Rel ι (args ++ List.replicate (fn.ntmps - args.length) undef) h { tmps := ⟨args'⟩ ++ Array.replicate (fn.ntmps - (⟨args'⟩ : Array Value).size) undef, defers := [] } w := by
            refine ⟨?_, rfl, H⟩
            simp only [Array.toList_append, Array.toList_replicate, List.size_toArray, ← hal]
            exact hA.append (F2.replicate _ _ _ (VR.undef ι))
          refine wp_mono (k c hx ι _ w hrel) fun e a' w' ⟨t', h', ι', ⟨he, v, hv, hR⟩, R', E'⟩ => ?_
          obtain ⟨v', r1, r2⟩ := results_sim R'.hr R'.fr hrs hv
          have : a'.defers = [] ∧ ∃ u, (results fn a'.tmps).run P w' = .ok u w' ∧ ∃ v v' h' ι', R v h' ∧ Ending.returned u = .returned v' ∧ VR ι' v v' ∧ HR ι' h' w' ∧ Ext ι h w ι' h' w' :=
            ⟨R'.defers, v', r1, v, v', h', ι', hR, rfl, r2, R'.hr, E'⟩
          rcases he with rfl | rfl
          · exact this
          · exact this
        · cases hf
    · cases hf
  · cases hf

/-- What the call made, and nobody has, is let go. -/
theorem Sim.cut {f : FuncId} {args : List Value} {R R' : Value → Heap → Prop} (k : Sim P f args h R)
    (hc : ∀ v h', R v h' → h.length ≤ h'.length ∧ belowV h.length v = true ∧ (h'.take h.length).all (belowB h.length) = true ∧ R' v (h'.take h.length)) : Sim P f args h R' := by
  refine ⟨k.1, fun ι w args' hA H => (k.2 ι w args' hA H).mono fun e w' ⟨v, v', h', ι', r1, r2, r3, r4, r5⟩ => ?_⟩
  obtain ⟨c1, c2, c3, c4⟩ := hc v h' r1
  exact ⟨v, v', _, _, c4, r2, r3.cut c2, r4.cut _ c1 c3, r5.cut H⟩

theorem Sim.mono {f : FuncId} {args : List Value} {R R' : Value → Heap → Prop} (k : Sim P f args h R) (hc : ∀ v h', R v h' → R' v h') : Sim P f args h R' :=
  ⟨k.1, fun ι w args' hA H => (k.2 ι w args' hA H).mono fun e w' ⟨v, v', h', ι', r1, r⟩ => ⟨v, v', h', ι', hc _ _ r1, r⟩⟩

/-! ### An evaluator -/
inductive Ex where
  | normal | ret
  | exit (id : Nat)
def Ex.ex : Ex → Exit
  | .normal => .normal
  | .ret => .ret
  | .exit id => .exit id

def eq0 : Value → Value → Bool
  | .bool a, .bool b => a == b
  | .int k a, .int l b => decide (k = l) && decide (a = b)
  | .string a, .string b => decide (a = b)
  | .pointer none, .pointer none => true
  | .pointer (some a), .pointer (some b) => decide (a = b)
  | .slice none a b, .slice none c d => decide (a = c) && decide (b = d)
  | .slice (some x) a b, .slice (some y) c d => decide (x = y) && decide (a = c) && decide (b = d)
  | .nilFunc, .nilFunc => true
  | .nilIface, .nilIface => true
  | _, _ => false
def eqL {α : Type} (e : α → α → Bool) : List α → List α → Bool
  | [], [] => true
  | a :: l, b :: m => e a b && eqL e l m
  | _, _ => false
def eqAg : Value → Value → Bool
  | .agg a, .agg b => eqL eq0 a.toList b.toList
  | a, b => eq0 a b
def eqV : Value → Value → Bool
  | .tuple a, .tuple b => eqL eqAg a.toList b.toList
  | a, b => eqAg a b
theorem eq0_eq {a b : Value} (e : eq0 a b = true) : a = b := by
  unfold eq0 at e
  split at e <;> simp_all
theorem eqL_eq {α : Type} {q : α → α → Bool} (hq : ∀ a b, q a b = true → a = b) : ∀ (l m : List α), eqL q l m = true → l = m
  | [], [], _ => rfl
  | a :: l, b :: m, e => by
    simp only [eqL, Bool.and_eq_true] at e
    rw [hq _ _ e.1, eqL_eq hq l m e.2]
  | [], _ :: _, e => by cases e
  | _ :: _, [], e => by cases e
theorem eqAg_eq {a b : Value} (e : eqAg a b = true) : a = b := by
  unfold eqAg at e
  split at e
  · rename_i x y
    have := eqL_eq (fun _ _ => eq0_eq) _ _ e
    cases x; cases y; simp at this; rw [this]
  · exact eq0_eq e
theorem eqV_eq {a b : Value} (e : eqV a b = true) : a = b := by
  unfold eqV at e
  split at e
  · rename_i x y
    have := eqL_eq (fun _ _ => eqAg_eq) _ _ e
    cases x; cases y; simp at this; rw [this]
  · exact eqAg_eq e
def eqB : Option Blk → Option Blk → Bool
  | none, none => true
  | some a, some b => decide (a.kind = b.kind) && eqL eqAg a.cells b.cells
  | _, _ => false
theorem eqB_eq {a b : Option Blk} (e : eqB a b = true) : a = b := by
  cases a with
  | none => cases b with
    | none => rfl
    | some y => cases e
  | some x => cases b with
    | none => cases e
    | some y =>
      simp only [eqB, Bool.and_eq_true, decide_eq_true_eq] at e
      have := eqL_eq (fun _ _ => eqAg_eq) _ _ e.2
      obtain ⟨e1, _⟩ := e
      cases x; cases y; simp_all

/-- What a drawn region's cross pairs ask, run. -/
def crossB (Γ : Env) (os : List IOp) (t : Fr) (h : Heap) : List (Nat × Nat) → Bool
  | [] => true
  | (i, j) :: r => (match os[i]?, runR Γ (os.take i) t h, runR Γ (os.take (if i < j then j + 1 else j)) t h with
    | some x, some (ti, hi), some (_, hj) => if want ti x.g then match opA Γ x.k ti hi, opA Γ x.k ti hj with
      | some (v, _), some (v', _) => eqV v v'
      | _, _ => false
      else true
    | _, _, _ => false) && crossB Γ os t h r
theorem crossB_ok {Γ : Env} {os : List IOp} : ∀ (X : List (Nat × Nat)), crossB Γ os t h X = true → CrossOk Γ os X t h
  | [], _ => fun p hp => by cases hp
  | (i, j) :: r, e => by
    simp only [crossB, Bool.and_eq_true] at e
    intro p hp
    rcases List.mem_cons.1 hp with rfl | hp
    · intro x ti hi tj hj hx h1 h2 hw v g hv
      have e1 := e.1
      rw [hx, h1, h2] at e1
      simp only [hw, if_true, hv] at e1
      split at e1
      · rename_i heq hv'
        cases heq
        rw [← eqV_eq e1] at hv'
        exact ⟨_, hv'⟩
      · cases e1
    · exact crossB_ok r e.2 p hp

def execF (Γ : Env) : Nat → IL → Fr → Heap → Option (Ex × Fr × Heap)
  | 0, _, _, _ => none
  | _ + 1, .skip, t, h => some (.normal, t, h)
  | _ + 1, .reg ops, t, h => match runR Γ ops t h with
    | some (t', h') => some (.normal, t', h')
    | none => none
  | _ + 1, .dreg ops X, t, h => if crossB Γ ops t h X then match runR Γ ops t h with
    | some (t', h') => some (.normal, t', h')
    | none => none
    else none
  | n + 1, .seq x y, t, h => match execF Γ n x t h with
    | some (.normal, t', h') => execF Γ n y t' h'
    | r => r
  | n + 1, .ite c x y, t, h => match ev t c with
    | .bool true => execF Γ n x t h
    | .bool false => execF Γ n y t h
    | _ => none
  | n + 1, .block id x, t, h => match execF Γ n x t h with
    | some (.exit i, t', h') => if i = id then some (.normal, t', h') else some (.exit i, t', h')
    | r => r
  | n + 1, .loop x, t, h => match execF Γ n x t h with
    | some (.normal, t', h') => execF Γ n (.loop x) t' h'
    | r => r
  | _ + 1, .exit id, t, h => some (.exit id, t, h)
  | _ + 1, .ret, t, h => some (.ret, t, h)

theorem execF_sim (hm : P.follows .mixedOrders = true) {Γ : Env} (hΓ : EnvOk P Γ) (hq : QuietEnv qt Γ) : ∀ (n : Nat) (x : IL) (t : Fr) (h : Heap) (e : Ex) (t' : Fr) (h' : Heap) (Q : Post), execF Γ n x t h = some (e, t', h') → Q e.ex t' h' → TI P qt x Q t h := by
  intro n
  induction n using Nat.strongRecOn with
  | _ n ih =>
    intro x t h e t' h' Q hx hQ
    cases n with
    | zero => cases hx
    | succ n =>
      cases x with
      | skip => cases hx; exact .skip hQ
      | reg ops =>
        simp only [execF] at hx
        split at hx
        · rename_i t1 h1 hr; cases hx; exact .reg hΓ hr hQ
        · cases hx
      | dreg ops X =>
        simp only [execF] at hx
        split at hx
        · rename_i hcr
          split at hx
          · rename_i t1 h1 hr; cases hx; exact .dreg hm hΓ hq hr (crossB_ok X hcr) hQ
          · cases hx
        · cases hx
      | seq x y =>
        simp only [execF] at hx
        split at hx
        · rename_i t1 h1 h1x
          exact .seq (ih n (by omega) x t h _ t1 h1 _ h1x (ih n (by omega) y t1 h1 e t' h' Q hx hQ))
        · rename_i r hne
          refine .seq (ih n (by omega) x t h e t' h' _ hx ?_)
          cases e with
          | normal => exact absurd hx (hne t' h')
          | _ => exact hQ
      | ite c x y =>
        simp only [execF] at hx
        split at hx
        · rename_i hb; exact .ite hb (fun _ => ih n (by omega) x t h e t' h' Q hx hQ) (fun q => by cases q)
        · rename_i hb; exact .ite hb (fun q => by cases q) (fun _ => ih n (by omega) y t h e t' h' Q hx hQ)
        · cases hx
      | block id x =>
        simp only [execF] at hx
        split at hx
        · rename_i i t1 h1 h1x
          refine .block (ih n (by omega) x t h _ t1 h1 _ h1x ?_)
          simp only [Ex.ex, blockP]
          split at hx
          · rename_i hi; cases hx; rw [if_pos hi]; exact hQ
          · rename_i hi; cases hx; rw [if_neg hi]; exact hQ
        · rename_i r hne
          refine .block (ih n (by omega) x t h e t' h' _ hx ?_)
          cases e with
          | exit i => exact absurd hx (hne i t' h')
          | _ => exact hQ
      | loop x =>
        refine .loop (fun k t1 h1 => k ≤ n + 1 ∧ execF Γ k (.loop x) t1 h1 = some (e, t', h')) (n + 1) ⟨Nat.le_refl _, hx⟩ fun k t1 h1 ⟨hk, hi⟩ => ?_
        cases k with
        | zero => cases hi
        | succ k =>
          simp only [execF] at hi
          split at hi
          · rename_i t2 h2 h2x
            exact ih k (by omega) x t1 h1 _ t2 h2 _ h2x ⟨k, by omega, by omega, hi⟩
          · rename_i r hne
            refine ih k (by omega) x t1 h1 e t' h' _ hi ?_
            cases e with
            | normal => exact absurd hi (hne t' h')
            | _ => exact hQ
      | exit id => cases hx; exact .exit hQ
      | ret => cases hx; exact .ret hQ

/-- The functions of a table, each to so many calls within calls. -/
abbrev Tab := List (Nat × FnIL)
def Tab.find (T : Tab) (f : Nat) : Option FnIL := match T with
  | [] => none
  | (g, F) :: r => if f = g then some F else Tab.find r f
def TabOk (P : Program) (qt : List Nat) (T : Tab) : Prop := ∀ f F, T.find f = some F → stF P qt f = some F

def letGo (h : Heap) (v : Value) (h' : Heap) : Bool := h.length ≤ h'.length && belowV h.length v && (h'.take h.length).all (belowB h.length)
def fnF (T : Tab) (qt : List Nat) (fuel : Nat) : Nat → Env
  | 0 => fun _ _ _ => none
  | n + 1 => fun f args h => match T.find f with
    | some F => match execF (fnF T qt fuel n) fuel F.body (args ++ List.replicate (F.ntmps - args.length) undef) h with
      | some (e, t', h') => match e with
        | .exit _ => none
        | _ => match resA t' h' F.res with
          | some v => if letGo h v h' then (if qt.contains f then (if eqL eqB (h'.take h.length) h then some (v, h) else none) else some (v, h'.take h.length)) else (if qt.contains f then none else some (v, h'))
          | none => none
      | none => none
    | none => none

theorem fnF_quiet {T : Tab} {fuel : Nat} : ∀ n, QuietEnv qt (fnF T qt fuel n)
  | 0 => fun f args h v h' _ e => by cases e
  | n + 1 => fun f args h v h' hf e => by
    simp only [fnF, hf, if_true] at e
    repeat' split at e
    all_goals first | (cases e; done) | (cases e; rfl)

theorem fnF_ok (hm : P.follows .mixedOrders = true) {T : Tab} (hT : TabOk P qt T) (fuel : Nat) : ∀ n, EnvOk P (fnF T qt fuel n)
  | 0 => fun f args h v h' e => by cases e
  | n + 1 => fun f args h v h' e => by
    simp only [fnF] at e
    split at e
    · rename_i F hF
      split at e
      · rename_i ex t1 h1 hx
        have key : ∀ (hne : ex = .normal ∨ ex = .ret), (match resA t1 h1 F.res with
          | some v => if letGo h v h1 then (if qt.contains f then (if eqL eqB (h1.take h.length) h then some (v, h) else none) else some (v, h1.take h.length)) else (if qt.contains f then none else some (v, h1))
          | none => none) = some (v, h') → Sim P f args h fun v1 h2 => v1 = v ∧ h2 = h' := by
          intro hne e
          split at e
          · rename_i v0 hv
            have base : Sim P f args h fun v1 h2 => v1 = v0 ∧ h2 = h1 := fn_sim (hT f F hF) (execF_sim hm (fnF_ok hm hT fuel n) (fnF_quiet n) fuel F.body _ h ex t1 h1 _ hx ⟨by rcases hne with rfl | rfl <;> simp [Ex.ex], v0, hv, rfl, rfl⟩)
            split at e
            · rename_i hc
              unfold letGo at hc
              simp only [Bool.and_eq_true, decide_eq_true_eq] at hc
              have bc : Sim P f args h fun v1 h2 => v1 = v0 ∧ h2 = h1.take h.length := base.cut fun v1 h2 ⟨q1, q2⟩ => by subst q1; subst q2; exact ⟨hc.1.1, hc.1.2, hc.2, rfl, rfl⟩
              split at e
              · split at e
                · rename_i heq
                  cases e
                  have := eqL_eq (fun _ _ => eqB_eq) _ _ heq
                  exact bc.mono fun v1 h2 ⟨q1, q2⟩ => ⟨q1, q2.trans this⟩
                · cases e
              · cases e; exact bc
            · split at e
              · cases e
              · cases e; exact base
          · cases e
        cases ex with
        | exit i => cases e
        | normal => exact key (.inl rfl) e
        | ret => exact key (.inr rfl) e
      · cases e
    · cases e

end Go.Am
