/-
  The evaluator as a tree of cases: where a condition hangs on the input, both ways are walked.
-/
import Derived.Test.YtjnppjipoibbeaaAm21
namespace Go.Am
set_option linter.all false

inductive Tr where
  | ret (v : Value) (h : Heap)
  | br (b : Bool) (l r : Tr)
  | req (b : Bool) (t : Tr)
  | claim (p : Prop) (t : Tr)
  | fail
def Tr.holds (Q : Value → Heap → Prop) : Tr → Prop
  | .ret v h => Q v h
  | .br b l r => (b = true → l.holds Q) ∧ (b = false → r.holds Q)
  | .req b t => b = true ∧ t.holds Q
  | .claim p t => p ∧ t.holds Q
  | .fail => False
/-- Hints: at each condition, whether it hangs on the input. -/
inductive Hn where
  | sym (l r : Hn)
  | con (n : Hn)
  | yes (n : Hn)
  | no (n : Hn)
  | nil

def brT (b : Bool) (hn : Hn) (kt kf : Hn → Tr) : Tr := match hn with
  | .sym l r => .br b (kt l) (kf r)
  | .con n => match b with
    | true => kt n
    | false => kf n
  | .yes n => .req b (kt n)
  | .no n => .req (!b) (kf n)
  | .nil => .fail
theorem brT_holds {b : Bool} {hn : Hn} {kt kf : Hn → Tr} {Q : Value → Heap → Prop} (h : (brT b hn kt kf).holds Q) : (b = true ∧ ∃ n, (kt n).holds Q) ∨ (b = false ∧ ∃ n, (kf n).holds Q) := by
  unfold brT at h
  split at h
  · cases b with
    | true => exact .inl ⟨rfl, _, h.1 rfl⟩
    | false => exact .inr ⟨rfl, _, h.2 rfl⟩
  · cases b with
    | true => exact .inl ⟨rfl, _, h⟩
    | false => exact .inr ⟨rfl, _, h⟩
  · exact .inl ⟨h.1, _, h.2⟩
  · exact .inr ⟨by simpa using h.1, _, h.2⟩
  · cases h

def wantT (t : Fr) (g : Option (Nat × Bool)) (hn : Hn) (ky kn : Fr → Hn → Tr) : Tr := match g with
  | none => ky t hn
  | some (i, p) => match t.getD i undef with
    | .bool c => brT c hn (fun n => match p with | true => ky (t.set i (.bool true)) n | false => kn (t.set i (.bool true)) n) (fun n => match p with | true => kn (t.set i (.bool false)) n | false => ky (t.set i (.bool false)) n)
    | _ => kn t hn

theorem set_same {t : Fr} {i : Nat} {v : Value} (h : t.getD i undef = v) (hv : v ≠ undef) : t.set i v = t := by
  apply List.ext_getElem?
  intro j
  rw [List.getElem?_set]
  split
  · rename_i hij
    subst hij
    have hlt : i < t.length := by
      rcases Nat.lt_or_ge i t.length with h1 | h1
      · exact h1
      · unfold List.getD at h
        rw [List.getElem?_eq_none h1] at h
        exact absurd h.symm hv
    rw [if_pos hlt]
    unfold List.getD at h
    rw [List.getElem?_eq_getElem hlt] at h ⊢
    simp at h
    rw [h]
  · rfl

theorem wantT_holds {t : Fr} {g : Option (Nat × Bool)} {hn : Hn} {ky kn : Fr → Hn → Tr} {Q : Value → Heap → Prop} (h : (wantT t g hn ky kn).holds Q) :
    (want t g = true ∧ ∃ n, (ky t n).holds Q) ∨ (want t g = false ∧ ∃ n, (kn t n).holds Q) := by
  unfold wantT at h
  split at h
  · exact .inl ⟨rfl, _, h⟩
  · rename_i i p
    split at h
    · rename_i c hc
      have hs : ∀ c, t.getD i undef = .bool c → t.set i (.bool c) = t := fun c hc => set_same hc (by intro q; cases q)
      rcases brT_holds h with ⟨hb, n, hk⟩ | ⟨hb, n, hk⟩
      · subst hb
        rw [hs _ hc] at hk
        cases p with
        | true => exact .inl ⟨by simp only [want, hc]; rfl, n, hk⟩
        | false => exact .inr ⟨by simp only [want, hc]; rfl, n, hk⟩
      · subst hb
        rw [hs _ hc] at hk
        cases p with
        | true => exact .inr ⟨by simp only [want, hc]; rfl, n, hk⟩
        | false => exact .inl ⟨by simp only [want, hc]; rfl, n, hk⟩
    · rename_i hne
      refine .inr ⟨?_, _, h⟩
      simp only [want]

def divT (op : BinOp) (v w : Value) (K : Value → Tr) : Tr := match v, w with
  | .int k a, .int k' b => if k = k' then .req (!(decide (b = 0))) (K (match op with | .quo => .int k (k.wrap (a.tdiv b)) | _ => .int k (a.tmod b))) else .fail
  | _, _ => .fail

/-- Functions of plain values: what must hold, and the value. -/
abbrev Plain := List (Nat × (List Value → Option (Bool × Value)))
def Plain.find (T : Plain) (f : Nat) : List Value → Option (Bool × Value) := match T with
  | [] => fun _ => none
  | (g, S) :: r => if f = g then S else Plain.find r f
def Plain.env (T : Plain) (Γ : Env) : Env := fun f args h => match T.find f args with
  | some (b, v) => if b then some (v, h) else none
  | none => Γ f args h

def opT (T : Plain) (Γ : Env) (k : IK) (t : Fr) (h : Heap) (hn : Hn) (K : Value → Heap → Hn → Tr) : Tr :=
  match k with
  | .pick c a b => match ev t c with
    | .bool c => brT c hn (fun n => K (ev t a) h n) (fun n => K (ev t b) h n)
    | _ => .fail
  | .bin .quo x y => divT .quo (ev t x) (ev t y) fun v => K v h hn
  | .bin .rem x y => divT .rem (ev t x) (ev t y) fun v => K v h hn
  | .call f args => match T.find f (args.map (ev t)) with
    | some (b, v) => .req b (K v h hn)
    | none => match Γ f (args.map (ev t)) h with
      | some (v, h') => K v h' hn
      | none => .fail
  | k => match opA (T.env Γ) k t h with
    | some (v, h') => K v h' hn
    | none => .fail

theorem opT_holds {T : Plain} {Γ : Env} {k : IK} {t : Fr} {h : Heap} {hn : Hn} {K : Value → Heap → Hn → Tr} {Q : Value → Heap → Prop} (e : (opT T Γ k t h hn K).holds Q) :
    ∃ v h' n, opA (T.env Γ) k t h = some (v, h') ∧ (K v h' n).holds Q := by
  unfold opT at e
  split at e
  · rename_i c a b
    split at e
    · rename_i c' hc
      rcases brT_holds e with ⟨hb, n, hk⟩ | ⟨hb, n, hk⟩
      · subst hb; exact ⟨_, _, n, by simp only [opA, pureA, hc]; rfl, hk⟩
      · subst hb; exact ⟨_, _, n, by simp only [opA, pureA, hc]; rfl, hk⟩
    · cases e
  · rename_i x y
    unfold divT at e
    split at e
    · rename_i k a k' b hx hy
      split at e
      · rename_i hkk
        obtain ⟨h1, h2⟩ := e
        have hb : ¬ b = 0 := by simpa using h1
        exact ⟨_, _, _, by simp only [opA, pureA, hx, hy, binA, hkk, if_true, intBin, hb, if_false], h2⟩
      · cases e
    · cases e
  · rename_i x y
    unfold divT at e
    split at e
    · rename_i k a k' b hx hy
      split at e
      · rename_i hkk
        obtain ⟨h1, h2⟩ := e
        have hb : ¬ b = 0 := by simpa using h1
        exact ⟨_, _, _, by simp only [opA, pureA, hx, hy, binA, hkk, if_true, intBin, hb, if_false], h2⟩
      · cases e
    · cases e
  · rename_i f args
    split at e
    · rename_i b v hv
      obtain ⟨h1, h2⟩ := e
      exact ⟨v, h, _, by simp only [opA, Plain.env, hv, h1, if_true], h2⟩
    · rename_i hv
      split at e
      · rename_i v h' hv2; exact ⟨v, h', _, by simp only [opA, Plain.env, hv, hv2], e⟩
      · cases e
  · split at e
    · rename_i v h' hv; exact ⟨v, h', _, hv, e⟩
    · cases e

def runT (T : Plain) (Γ : Env) : List IOp → Fr → Heap → Hn → (Fr → Heap → Hn → Tr) → Tr
  | [], t, h, hn, K => K t h hn
  | o :: r, t, h, hn, K => wantT t o.g hn (fun t n => opT T Γ o.k t h n fun v h' n => runT T Γ r (put t o.dst v) h' n K) (fun t n => runT T Γ r (put t o.dst undef) h n K)
theorem runT_holds {T : Plain} {Γ : Env} {Q : Value → Heap → Prop} {K : Fr → Heap → Hn → Tr} : ∀ (l : List IOp) (t : Fr) (h : Heap) (hn : Hn), (runT T Γ l t h hn K).holds Q → ∃ t' h' n, runR (T.env Γ) l t h = some (t', h') ∧ (K t' h' n).holds Q
  | [], t, h, hn, e => ⟨t, h, hn, rfl, e⟩
  | o :: r, t, h, hn, e => by
    simp only [runT] at e
    rcases wantT_holds e with ⟨hw, n, hk⟩ | ⟨hw, n, hk⟩
    · obtain ⟨v, h1, n1, h2, h3⟩ := opT_holds hk
      obtain ⟨t', h', n2, h4, h5⟩ := runT_holds r _ _ _ h3
      exact ⟨t', h', n2, by simp only [runR, hw, if_true, h2, h4], h5⟩
    · obtain ⟨t', h', n2, h4, h5⟩ := runT_holds r _ _ _ hk
      exact ⟨t', h', n2, by simp only [runR, hw, Bool.false_eq_true, if_false, h4], h5⟩

def execT (T : Plain) (Γ : Env) : Nat → IL → Fr → Heap → Hn → (Ex → Fr → Heap → Hn → Tr) → Tr
  | 0, _, _, _, _, _ => .fail
  | _ + 1, .skip, t, h, hn, K => K .normal t h hn
  | _ + 1, .reg ops, t, h, hn, K => runT T Γ ops t h hn (K .normal)
  | _ + 1, .dreg ops X, t, h, hn, K => .req (crossB (T.env Γ) ops t h X) (runT T Γ ops t h hn (K .normal))
  | n + 1, .seq x y, t, h, hn, K => execT T Γ n x t h hn fun e t' h' hn' => match e with
    | .normal => execT T Γ n y t' h' hn' K
    | e => K e t' h' hn'
  | n + 1, .ite c x y, t, h, hn, K => match ev t c with
    | .bool b => brT b hn (fun m => execT T Γ n x t h m K) (fun m => execT T Γ n y t h m K)
    | _ => .fail
  | n + 1, .block id x, t, h, hn, K => execT T Γ n x t h hn fun e t' h' hn' => match e with
    | .exit i => if i = id then K .normal t' h' hn' else K (.exit i) t' h' hn'
    | e => K e t' h' hn'
  | n + 1, .loop x, t, h, hn, K => execT T Γ n x t h hn fun e t' h' hn' => match e with
    | .normal => execT T Γ n (.loop x) t' h' hn' K
    | e => K e t' h' hn'
  | _ + 1, .exit id, t, h, hn, K => K (.exit id) t h hn
  | _ + 1, .ret, t, h, hn, K => K .ret t h hn

theorem execT_holds {T : Plain} {Γ : Env} {Q : Value → Heap → Prop} : ∀ (n : Nat) (x : IL) (t : Fr) (h : Heap) (hn : Hn) (K : Ex → Fr → Heap → Hn → Tr), (execT T Γ n x t h hn K).holds Q →
    ∃ e t' h' m, execF (T.env Γ) n x t h = some (e, t', h') ∧ (K e t' h' m).holds Q
  | 0, _, _, _, _, _, e => by cases e
  | n + 1, x, t, h, hn, K, e => by
    cases x with
    | skip => exact ⟨_, _, _, _, rfl, e⟩
    | reg ops =>
      obtain ⟨t', h', m, h1, h2⟩ := runT_holds ops t h hn e
      exact ⟨_, _, _, m, by simp only [execF, h1], h2⟩
    | dreg ops X =>
      obtain ⟨h0, e⟩ := e
      obtain ⟨t', h', m, h1, h2⟩ := runT_holds ops t h hn e
      exact ⟨_, _, _, m, by simp only [execF, h0, if_true, h1], h2⟩
    | seq x y =>
      obtain ⟨e1, t1, h1, m1, q1, q2⟩ := execT_holds n x t h hn _ e
      cases e1 with
      | normal =>
        obtain ⟨e2, t2, h2, m2, q3, q4⟩ := execT_holds n y t1 h1 m1 K q2
        exact ⟨e2, t2, h2, m2, by simp only [execF, q1, q3], q4⟩
      | ret => exact ⟨_, t1, h1, m1, by simp only [execF, q1], q2⟩
      | exit id => exact ⟨_, t1, h1, m1, by simp only [execF, q1], q2⟩
    | ite c x y =>
      simp only [execT] at e
      split at e
      · rename_i b hb
        rcases brT_holds e with ⟨hq, m, hk⟩ | ⟨hq, m, hk⟩
        · subst hq
          obtain ⟨e1, t1, h1, m1, q1, q2⟩ := execT_holds n x t h m K hk
          exact ⟨e1, t1, h1, m1, by simp only [execF, hb, q1], q2⟩
        · subst hq
          obtain ⟨e1, t1, h1, m1, q1, q2⟩ := execT_holds n y t h m K hk
          exact ⟨e1, t1, h1, m1, by simp only [execF, hb, q1], q2⟩
      · cases e
    | block id x =>
      obtain ⟨e1, t1, h1, m1, q1, q2⟩ := execT_holds n x t h hn _ e
      cases e1 with
      | normal => exact ⟨_, t1, h1, m1, by simp only [execF, q1], q2⟩
      | ret => exact ⟨_, t1, h1, m1, by simp only [execF, q1], q2⟩
      | exit i =>
        dsimp only at q2
        split at q2
        · rename_i hi; exact ⟨_, t1, h1, m1, by simp only [execF, q1, hi, if_true], q2⟩
        · rename_i hi; exact ⟨_, t1, h1, m1, by simp only [execF, q1, hi, if_false], q2⟩
    | loop x =>
      obtain ⟨e1, t1, h1, m1, q1, q2⟩ := execT_holds n x t h hn _ e
      cases e1 with
      | normal =>
        obtain ⟨e2, t2, h2, m2, q3, q4⟩ := execT_holds n (.loop x) t1 h1 m1 K q2
        exact ⟨e2, t2, h2, m2, by simp only [execF, q1, q3], q4⟩
      | ret => exact ⟨_, t1, h1, m1, by simp only [execF, q1], q2⟩
      | exit i => exact ⟨_, t1, h1, m1, by simp only [execF, q1], q2⟩
    | exit id => exact ⟨_, _, _, _, rfl, e⟩
    | ret => exact ⟨_, _, _, _, rfl, e⟩

/-- A function's tree. -/
def retT (h : Heap) (rs : List Res) (e : Ex) (t' : Fr) (h' : Heap) : Tr := match e with
  | .exit _ => .fail
  | _ => match resA t' h' rs with
    | some v => if letGo h v h' then .ret v (h'.take h.length) else .ret v h'
    | none => .fail
def fnT (T : Plain) (Γ : Env) (fuel : Nat) (F : FnIL) (hn : Hn) (args : List Value) (h : Heap) : Tr :=
  execT T Γ fuel F.body (args ++ List.replicate (F.ntmps - args.length) undef) h hn fun e t' h' _ => retT h F.res e t' h'

theorem fnT_sim {P : Program} {qt : List Nat} (hm : P.follows .mixedOrders = true) {T : Plain} {Γ : Env} (hΓ : EnvOk P (T.env Γ)) (hq : QuietEnv qt (T.env Γ)) {f : Nat} {F : FnIL} (hf : stF P qt f = some F) {fuel : Nat} {hn : Hn} {args : List Value} {h : Heap}
    {Q : Value → Heap → Prop} (e : (fnT T Γ fuel F hn args h).holds Q) : Sim P f args h Q := by
  obtain ⟨ex, t', h', m, h1, h2⟩ := execT_holds fuel F.body _ h hn _ e
  have key : ∀ (hne : ex = .normal ∨ ex = .ret), (match resA t' h' F.res with
      | some v => if letGo h v h' then Tr.ret v (h'.take h.length) else .ret v h'
      | none => .fail).holds Q → Sim P f args h Q := by
    intro hne e
    split at e
    · rename_i v hv
      have base : Sim P f args h fun v1 h2 => v1 = v ∧ h2 = h' := fn_sim hf (execF_sim hm hΓ hq fuel F.body _ h ex t' h' _ h1 ⟨by rcases hne with rfl | rfl <;> simp [Ex.ex], v, hv, rfl, rfl⟩)
      split at e
      · rename_i hc
        unfold letGo at hc
        simp only [Bool.and_eq_true, decide_eq_true_eq] at hc
        exact base.cut fun v1 h2 ⟨q1, q2⟩ => by subst q1; subst q2; exact ⟨hc.1.1, hc.1.2, hc.2, e⟩
      · exact base.mono fun v1 h2 ⟨q1, q2⟩ => by subst q1; subst q2; exact e
    · cases e
  cases ex with
  | exit i => cases h2
  | normal => exact key (.inl rfl) h2
  | ret => exact key (.inr rfl) h2

end Go.Am
