/-
  The evaluator as a tree, over values that name their blocks.
-/
import Derived.Test.YtgdojnamjkhknaaAm26
namespace Go.Am
set_option linter.all false

/-- A change of the heap: items turned, items laid on top. -/
structure Dl where
  rs : List (Nat × It) := []
  app : List It := []
inductive Hs where
  | sym (l r : Hs)
  | con (n : Hs)
  | yes (n : Hs)
  | no (n : Hs)
  | val (n : Hs)
  | join (m : Nat) (l r n : Hs)
  /-- an operation's value, asked for -/
  | use (d : Nat) (v : SV) (D : Dl) (n : Hs)
  /-- the same, of an operation that doesn't look at the heap -/
  | pur (d : Nat) (v : Value) (n : Hs)
  /-- the same, of an operation that looks at the first item alone -/
  | bas (d : Nat) (v : Value) (n : Hs)
  | crs (vals : List (Option (SV × Dl))) (n : Hs)
  | lp (id : Nat) (lv : List Nat) (t : SFr) (D : Dl) (n : Hs)
  | lp2 (id : Nat) (lv : List Nat) (b : Bool) (t : SFr) (D : Dl) (t' : SFr) (D' : Dl) (l r : Hs)
  | nil

inductive STr where
  | ret (e : Ex) (t : SFr) (I : SH)
  | br (b : Bool) (l r : STr)
  | req (b : Bool) (t : STr)
  | claim (p : Prop) (t : STr)
  | fail
abbrev PostS := Ex → SFr → SH → Prop
def STr.holds (Q : PostS) : STr → Prop
  | .ret e t I => Q e t I
  | .br b l r => (b = true → l.holds Q) ∧ (b = false → r.holds Q)
  | .req b t => b = true ∧ t.holds Q
  | .claim p t => p ∧ t.holds Q
  | .fail => False

def brS (b : Bool) (hn : Hs) (kt kf : Hs → STr) : STr := match hn with
  | .sym l r => .br b (kt l) (kf r)
  | .con n => match b with
    | true => kt n
    | false => kf n
  | .yes n => .req b (kt n)
  | .no n => .req (!b) (kf n)
  | _ => .fail
theorem brS_holds {b : Bool} {hn : Hs} {kt kf : Hs → STr} {Q : PostS} (h : (brS b hn kt kf).holds Q) : (b = true ∧ ∃ n, (kt n).holds Q) ∨ (b = false ∧ ∃ n, (kf n).holds Q) := by
  unfold brS at h
  split at h
  · cases b with
    | true => exact .inl ⟨rfl, _, h.1 rfl⟩
    | false => exact .inr ⟨rfl, _, h.2 rfl⟩
  · cases b with
    | true => exact .inl ⟨rfl, _, h⟩
    | false => exact .inr ⟨rfl, _, h⟩
  · exact .inl ⟨h.1, _, h.2⟩
  · exact .inr ⟨by simpa using h.1, _, h.2⟩
  · cases h

/-! ### A change of the heap -/
def sameLen : It → It → Option Prop
  | .seg S, .seg S' => some (S'.length = S.length)
  | .seg _, _ => none
  | _, .seg _ => none
  | _, _ => some True
def Dl.on (I : SH) : List (Nat × It) → Option (SH × List Prop)
  | [] => some (I, [])
  | (j, x) :: r => match I[j]? with
    | some y => match sameLen y x with
      | some p => match Dl.on (I.set j x) r with
        | some (J, ps) => some (J, match x with | .seg _ => p :: ps | _ => ps)
        | none => none
      | none => none
    | none => none
def claims : List Prop → STr → STr
  | [], t => t
  | p :: r, t => .claim p (claims r t)
theorem claims_holds {Q : PostS} {t : STr} : ∀ (ps : List Prop), (claims ps t).holds Q → (∀ p ∈ ps, p) ∧ t.holds Q
  | [], h => ⟨fun p hp => (by cases hp), h⟩
  | p :: r, h => by
    obtain ⟨h1, h2⟩ := h
    obtain ⟨h3, h4⟩ := claims_holds r h2
    refine ⟨fun q hq => ?_, h4⟩
    rcases List.mem_cons.1 hq with e | e
    · rw [e]; exact h1
    · exact h3 q e
theorem Dl.on_grow : ∀ (rs : List (Nat × It)) (I J : SH) (ps : List Prop), Dl.on I rs = some (J, ps) → (∀ p ∈ ps, p) → Grow I J
  | [], I, J, ps, e, _ => by cases e; exact .refl I
  | (j, x) :: r, I, J, ps, e, hp => by
    simp only [Dl.on] at e
    split at e
    · rename_i y hy
      split at e
      · rename_i p hs
        split at e
        · rename_i J' ps' hr
          cases e
          have hx : x.len = y.len := by
            cases y <;> cases x <;> first | rfl | (cases hs; done) | skip
            rename_i S S'
            cases hs
            exact hp (S'.length = S.length) (by simp)
          refine (Grow.set hy hx).trans (Dl.on_grow r _ J ps' hr fun p hq => hp p ?_)
          split <;> simp [hq]
        · cases e
      · cases e
    · cases e
/-- The heap behind a change; what is asked for. -/
def Dl.go (I : SH) (D : Dl) : Option (SH × List Prop) := match Dl.on I D.rs with
  | some (J, ps) => if (J ++ D.app).all (It.bnd (J ++ D.app).length) then some (J ++ D.app, ps) else none
  | none => none
theorem Dl.go_ok {I J : SH} {D : Dl} {ps : List Prop} (e : Dl.go I D = some (J, ps)) (hp : ∀ p ∈ ps, p) : Grow I J ∧ J.all (It.bnd J.length) = true := by
  unfold Dl.go at e
  split at e
  · rename_i J0 ps0 h
    split at e
    · rename_i hb
      cases e
      exact ⟨(Dl.on_grow _ _ _ _ h hp).trans (.app _ _), hb⟩
    · cases e
  · cases e

/-! ### Both ways, brought together -/
def eqS0 : SV → SV → Bool
  | .ptr a b, .ptr c d => decide (a = c) && decide (b = d)
  | .sl a b c d, .sl x y z w => decide (a = x) && decide (b = y) && decide (c = z) && decide (d = w)
  | _, _ => false
theorem eqS0_eq {a b : SV} (e : eqS0 a b = true) : a = b := by
  unfold eqS0 at e
  split at e <;> simp_all
def mergeS (b : Bool) (u v : SV) : Option SV := match u, v with
  | .raw x, .raw y => match mergeV b x y with
    | some w => some (.raw w)
    | none => none
  | u, v => if eqS0 u v then some u else none
theorem mergeS_eq {b : Bool} {u v w : SV} (f : Nat → Nat) (e : mergeS b u v = some w) : denV f w = if b then denV f u else denV f v := by
  unfold mergeS at e
  split at e
  · split at e
    · rename_i x hm
      cases e
      have := mergeV_eq hm
      simp only [denV, denA, den0, this]
    · cases e
  · split at e
    · rename_i h
      cases e
      rw [eqS0_eq h]
      split <;> rfl
    · cases e
theorem mergeS_bnd {b : Bool} {u v w : SV} {n : Nat} (e : mergeS b u v = some w) (hu : bndV n u = true) : bndV n w = true := by
  unfold mergeS at e
  split at e
  · split at e
    · cases e; rfl
    · cases e
  · split at e
    · cases e; exact hu
    · cases e
def mergeFS (b : Bool) (lv : Lv) (t1 t2 : SFr) : List Nat → SFr → Option SFr
  | [], t => some t
  | d :: r, t => if lv d then match mergeS b (t1.getD d sund) (t2.getD d sund) with
      | some v => mergeFS b lv t1 t2 r (t.set d v)
      | none => none
    else mergeFS b lv t1 t2 r (t.set d sund)
def putS (t : SFr) : Option Nat → SV → SFr
  | some d, v => t.set d v
  | none, _ => t
theorem putS_den (I : SH) (t : SFr) (d : Option Nat) (v : SV) : denF I (putS t d v) = put (denF I t) d (denV (ofs I) v) := by
  cases d with
  | none => rfl
  | some d => simp only [putS, put, denF, List.map_set]
theorem putS_bnd {n : Nat} {t : SFr} {d : Option Nat} {v : SV} (ht : t.all (bndV n) = true) (hv : bndV n v = true) : (putS t d v).all (bndV n) = true := by
  cases d with
  | none => exact ht
  | some d =>
    refine List.all_eq_true.2 fun i hi => ?_
    rcases List.mem_or_eq_of_mem_set hi with q | q
    · exact List.all_eq_true.1 ht i q
    · subst q; exact hv
theorem getD_den (I : SH) (t : SFr) (i : Nat) : (denF I t).getD i undef = denV (ofs I) (t.getD i sund) := ev_denF I t (.tmp i)
theorem getD_bnd {n : Nat} {t : SFr} (ht : t.all (bndV n) = true) (i : Nat) : bndV n (t.getD i sund) = true := evS_bnd ht (.tmp i)
theorem mergeFS_ok {b : Bool} {lv : Lv} {t1 t2 : SFr} {I : SH} : ∀ (ds : List Nat) (t t3 : SFr), mergeFS b lv t1 t2 ds t = some t3 → t1.length = t.length → t2.length = t.length → t.all (bndV I.length) = true → t1.all (bndV I.length) = true →
    (t3.length = t.length ∧ t3.all (bndV I.length) = true) ∧ ∀ i, lv i = true → (i ∈ ds → denV (ofs I) (t3.getD i sund) = denV (ofs I) ((if b then t1 else t2).getD i sund)) ∧ (i ∉ ds → t3.getD i sund = t.getD i sund)
  | [], t, t3, e, _, _, ht, _ => by cases e; exact ⟨⟨rfl, ht⟩, fun i _ => ⟨fun h => (by cases h), fun _ => rfl⟩⟩
  | d :: r, t, t3, e, l1, l2, ht, h1 => by
    have gs : ∀ (v : SV) i, (t.set d v).getD i sund = if d = i ∧ d < t.length then v else t.getD i sund := fun v i => by
      simp only [List.getD, List.getElem?_set]
      by_cases h : d = i
      · subst h
        by_cases h1 : d < t.length
        · simp [h1]
        · simp [h1]
      · simp [h]
    simp only [mergeFS] at e
    split at e
    · rename_i hl
      split at e
      · rename_i v hv
        obtain ⟨a, c⟩ := mergeFS_ok r _ t3 e (by simpa using l1) (by simpa using l2) (putS_bnd (d := some d) ht (mergeS_bnd hv (getD_bnd h1 d))) h1
        refine ⟨by simpa using a, fun i hi => ⟨fun hm => ?_, fun hm => ?_⟩⟩
        · by_cases hr : i ∈ r
          · exact (c i hi).1 hr
          · rw [(c i hi).2 hr, gs]
            have hdi : d = i := by simpa [hr, eq_comm] using hm
            subst hdi
            have hv' := mergeS_eq (ofs I) hv
            by_cases hlt : d < t.length
            · simp only [hlt, and_self, if_true, hv']
              cases b <;> rfl
            · simp only [hlt, and_false, if_false]
              have e0 : ∀ t : SFr, t.length ≤ d → t.getD d sund = sund := fun t h => by simp [List.getD, List.getElem?_eq_none h]
              rw [e0 t (by omega)]
              cases b
              · exact congrArg _ (e0 t2 (by omega)).symm
              · exact congrArg _ (e0 t1 (by omega)).symm
        · have h1 : ¬ i = d := fun q => hm (by simp [q])
          have h2 : i ∉ r := fun q => hm (by simp [q])
          rw [(c i hi).2 h2, gs]
          simp [Ne.symm h1]
      · cases e
    · rename_i hl
      obtain ⟨a, c⟩ := mergeFS_ok r _ t3 e (by simpa using l1) (by simpa using l2) (putS_bnd (d := some d) ht rfl) h1
      refine ⟨by simpa using a, fun i hi => ⟨fun hm => ?_, fun hm => ?_⟩⟩
      · have h1 : ¬ i = d := fun q => hl (by rw [← q]; exact hi)
        exact (c i hi).1 (by simpa [h1] using hm)
      · have h1 : ¬ i = d := fun q => hm (by simp [q])
        have h2 : i ∉ r := fun q => hm (by simp [q])
        rw [(c i hi).2 h2, gs]
        simp [Ne.symm h1]

/-- An operation within a join: no heap is turned. -/
def opJS (T : Plain) (k : IK) (t : SFr) (I : SH) (hn : Hs) : Option (Bool × SV × Hs) :=
  match k with
  | .pick c a b => match evS t c with
    | .raw (.bool c) => match hn with
      | .val n => match mergeS c (evS t a) (evS t b) with
        | some v => some (true, v, n)
        | none => none
      | .con n => match c with
        | true => some (true, evS t a, n)
        | false => some (true, evS t b, n)
      | _ => none
    | _ => none
  | .bin .quo x y => match evS t x, evS t y with
    | .raw (.int k a), .raw (.int k' b) => if k = k' then some (!(decide (b = 0)), .raw (.int k (k.wrap (a.tdiv b))), hn) else none
    | _, _ => none
  | .bin .rem x y => match evS t x, evS t y with
    | .raw (.int k a), .raw (.int k' b) => if k = k' then some (!(decide (b = 0)), .raw (.int k (a.tmod b)), hn) else none
    | _, _ => none
  | .call f args => if args.all fun o => isRaw (evS t o) then match T.find f (args.map (ev (rt t))) with
      | some (b, v) => some (b, .raw v, hn)
      | none => none
    else none
  | k => match pureS k t I with
    | some v => some (true, v, hn)
    | none => none

theorem div_ok {Γ : Env} {op : BinOp} {x y : Operand} {t : SFr} {I : SH} {k k' : IntKind} {a b : Int} (hx : evS t x = .raw (.int k a)) (hy : evS t y = .raw (.int k' b)) (hk : k = k') (hb : ¬ b = 0) :
    (opA Γ (.bin .quo x y) (denF I t) (denH I) = some (.int k (k.wrap (a.tdiv b)), denH I)) ∧ (opA Γ (.bin .rem x y) (denF I t) (denH I) = some (.int k (a.tmod b), denH I)) := by
  have h1 : ev (denF I t) x = .int k a := by rw [ev_denF, hx]; rfl
  have h2 : ev (denF I t) y = .int k' b := by rw [ev_denF, hy]; rfl
  constructor <;> simp only [opA, pureA, h1, h2, binA, hk, if_true, intBin, hb, if_false]
theorem call_ok {T : Plain} {Γ : Env} {f : Nat} {args : List Operand} {t : SFr} {I : SH} {h : Heap} {v : Value} (ha : (args.all fun o => isRaw (evS t o)) = true) (e : T.find f (args.map (ev (rt t))) = some (true, v)) :
    opA (T.env Γ) (.call f args) (denF I t) h = some (v, h) := by
  have : args.map (ev (denF I t)) = args.map (ev (rt t)) := List.map_congr_left fun o ho => (ev_rt (List.all_eq_true.1 ha o ho)).symm
  simp only [opA, Plain.env, this, e, if_true]

theorem opJS_ok {T : Plain} {Γ : Env} {k : IK} {t : SFr} {I : SH} {hn : Hs} {q : Bool} {v : SV} {n : Hs} (e : opJS T k t I hn = some (q, v, n)) (hq : q = true) : opA (T.env Γ) k (denF I t) (denH I) = some (denV (ofs I) v, denH I) := by
  unfold opJS at e
  split at e
  · rename_i c a b
    split at e
    · rename_i c' hc
      have hc' : ev (denF I t) c = .bool c' := by rw [ev_denF, hc]; rfl
      split at e
      · split at e
        · rename_i w hm
          cases e
          simp only [opA, pureA, hc', ev_denF, mergeS_eq (ofs I) hm]
        · cases e
      · split at e
        · cases e; simp only [opA, pureA, hc', ev_denF]; rfl
        · cases e; simp only [opA, pureA, hc', ev_denF]; rfl
      · cases e
    · cases e
  · split at e
    · rename_i hx hy
      split at e
      · rename_i hkk
        cases e
        simp only [Bool.not_eq_true', decide_eq_false_iff_not] at hq
        exact (div_ok (op := .quo) hx hy hkk hq).1
      · cases e
    · cases e
  · split at e
    · rename_i hx hy
      split at e
      · rename_i hkk
        cases e
        simp only [Bool.not_eq_true', decide_eq_false_iff_not] at hq
        exact (div_ok (op := .quo) hx hy hkk hq).2
      · cases e
    · cases e
  · split at e
    · rename_i ha
      split at e
      · rename_i b w hf
        cases e
        subst hq
        exact call_ok ha hf
      · cases e
    · cases e
  · split at e
    · rename_i w hw
      cases e
      exact pureS_ok hw
    · cases e

def runJS (T : Plain) : Nat → List IOp → SFr → SH → Hs → Lv → Option (Bool × SFr × Hs)
  | 0, _, _, _, _, _ => none
  | _ + 1, [], t, _, hn, _ => some (true, t, hn)
  | n + 1, o :: r, t, I, hn, lv =>
    let go (hn : Hs) : Option (Bool × SFr × Hs) := match opJS T o.k t I hn with
      | some (q, v, hn) => if bndV I.length v then match runJS T n r (putS t o.dst v) I hn lv with
          | some (q2, t2, hn2) => some (q && q2, t2, hn2)
          | none => none
        else none
      | none => none
    match o.g with
    | none => go hn
    | some (i, p) => match hn, t.getD i sund with
      | .join m hl hr hk, .raw (.bool b) =>
        let lj : Lv := fun d => isLive d ((o :: r).drop m) lv
        match runJS T n ((o :: r).take m) (t.set i (.raw (.bool true))) I hl lj, runJS T n ((o :: r).take m) (t.set i (.raw (.bool false))) I hr lj with
        | some (q1, t1, _), some (q2, t2, _) => match mergeFS b lj t1 t2 (((o :: r).take m).filterMap (·.dst)) t with
          | some t3 => match runJS T n ((o :: r).drop m) t3 I hk lv with
            | some (q3, t4, hk') => some ((bif b then q1 else q2) && q3, t4, hk')
            | none => none
          | none => none
        | _, _ => none
      | .con hn, .raw (.bool c) => if c == p then go hn else runJS T n r (putS t o.dst sund) I hn lv
      | .con hn, .raw (.tuple ⟨[]⟩) => runJS T n r (putS t o.dst sund) I hn lv
      | _, _ => none

theorem setS_same {I : SH} {t : SFr} {i : Nat} {b : Bool} (h : t.getD i sund = .raw (.bool b)) : denF I (t.set i (.raw (.bool b))) = denF I t := by
  have h1 : (denF I t).getD i undef = .bool b := by rw [getD_den, h]; rfl
  have := putS_den I t (some i) (.raw (.bool b))
  simp only [putS, put] at this
  rw [this]
  exact set_same h1 (by intro q; cases q)
theorem join_agS {Γ : Env} {a : List IOp} {b : Bool} {lj : Lv} {t t1 t2 t3 : SFr} {I : SH} {u : Fr} {h h1 : Heap} (hu : runR Γ a (denF I t) h = some (u, h1)) (l1 : t1.length = t.length) (l2 : t2.length = t.length) (ht : t.all (bndV I.length) = true) (h1 : t1.all (bndV I.length) = true)
    (hm : mergeFS b lj t1 t2 (a.filterMap (·.dst)) t = some t3) (ha : Ag (fun i => lj i = false) u (denF I (if b then t1 else t2))) : Ag (fun i => lj i = false) u (denF I t3) ∧ t3.length = t.length ∧ t3.all (bndV I.length) = true := by
  obtain ⟨ul, uf⟩ := runR_len a _ h u _ hu
  obtain ⟨⟨m1, m3⟩, m2⟩ := mergeFS_ok (I := I) _ _ _ hm l1 l2 ht h1
  refine ⟨⟨by rw [ul]; simp [denF, m1], fun i hi => ?_⟩, m1, m3⟩
  have hi' : lj i = true := by cases q : lj i with
    | true => rfl
    | false => exact absurd q hi
  by_cases hd : i ∈ a.filterMap (·.dst)
  · rw [getD_den, (m2 i hi').1 hd, ← getD_den]; exact ha.2 i hi
  · rw [getD_den, (m2 i hi').2 hd, ← getD_den, uf i hd]
theorem putS_len {t : SFr} {d : Option Nat} {v : SV} : (putS t d v).length = t.length := by cases d <;> simp [putS]

theorem runJS_ok {T : Plain} {Γ : Env} : ∀ (n : Nat) (ops : List IOp) (t : SFr) (I : SH) (hn : Hs) (lv : Lv) (q : Bool) (t' : SFr) (hn' : Hs), runJS T n ops t I hn lv = some (q, t', hn') → t.all (bndV I.length) = true →
    (t'.length = t.length ∧ t'.all (bndV I.length) = true) ∧ (q = true → ∃ t1, runR (T.env Γ) ops (denF I t) (denH I) = some (t1, denH I) ∧ Ag (fun i => lv i = false) t1 (denF I t'))
  | 0, _, _, _, _, _, _, _, _, e, _ => by cases e
  | n + 1, [], t, I, hn, lv, q, t', hn', e, ht => by cases e; exact ⟨⟨rfl, ht⟩, fun _ => ⟨_, rfl, .refl _⟩⟩
  | n + 1, o :: r, t, I, hn, lv, q, t', hn', e, ht => by
    have go : ∀ hn, want (denF I t) o.g = true → (match opJS T o.k t I hn with
      | some (q, v, hn) => if bndV I.length v then match runJS T n r (putS t o.dst v) I hn lv with
          | some (q2, t2, hn2) => some (q && q2, t2, hn2)
          | none => none
        else none
      | none => none) = some (q, t', hn') → (t'.length = t.length ∧ t'.all (bndV I.length) = true) ∧ (q = true → ∃ t1, runR (T.env Γ) (o :: r) (denF I t) (denH I) = some (t1, denH I) ∧ Ag (fun i => lv i = false) t1 (denF I t')) := by
      intro hn hw e
      split at e
      · rename_i q1 v n1 ho
        split at e
        · rename_i hb
          split at e
          · rename_i q2 t2 n2 hr
            cases e
            obtain ⟨l, k⟩ := runJS_ok (Γ := Γ) n r _ I _ lv _ _ _ hr (putS_bnd ht hb)
            refine ⟨⟨l.1.trans putS_len, l.2⟩, fun hq => ?_⟩
            simp only [Bool.and_eq_true] at hq
            obtain ⟨t1, e1, a1⟩ := k hq.2
            rw [putS_den] at e1
            exact ⟨t1, by simp only [runR, hw, if_true, opJS_ok ho hq.1, e1], a1⟩
          · cases e
        · cases e
      · cases e
    have skip : want (denF I t) o.g = false → ∀ hn, runJS T n r (putS t o.dst sund) I hn lv = some (q, t', hn') → (t'.length = t.length ∧ t'.all (bndV I.length) = true) ∧ (q = true → ∃ t1, runR (T.env Γ) (o :: r) (denF I t) (denH I) = some (t1, denH I) ∧ Ag (fun i => lv i = false) t1 (denF I t')) := by
      intro hw hn e
      obtain ⟨l, k⟩ := runJS_ok (Γ := Γ) n r _ I _ lv _ _ _ e (putS_bnd ht rfl)
      refine ⟨⟨l.1.trans putS_len, l.2⟩, fun hq => ?_⟩
      obtain ⟨t1, e1, a1⟩ := k hq
      rw [putS_den] at e1
      exact ⟨t1, by simp only [runR, hw, Bool.false_eq_true, if_false]; exact e1, a1⟩
    unfold runJS at e
    dsimp only at e
    split at e
    · rename_i hg
      exact go hn (by simp [want, hg]) e
    · rename_i i p hg
      split at e
      · rename_i m hl hr hk b hb
        split at e
        · rename_i q1 t1 n1 q2 t2 n2 e1 e2
          split at e
          · rename_i t3 hm
            split at e
            · rename_i q3 t4 hk' e3
              cases e
              obtain ⟨⟨l1, b1⟩, k1⟩ := runJS_ok (Γ := Γ) n _ _ I _ _ _ _ _ e1 (putS_bnd (d := some i) ht rfl)
              obtain ⟨⟨l2, b2⟩, k2⟩ := runJS_ok (Γ := Γ) n _ _ I _ _ _ _ _ e2 (putS_bnd (d := some i) ht rfl)
              rw [List.length_set] at l1 l2
              obtain ⟨⟨m1, m3⟩, _⟩ := mergeFS_ok (I := I) _ _ _ hm l1 l2 ht b1
              obtain ⟨l3, k3⟩ := runJS_ok (Γ := Γ) n _ _ I _ _ _ _ _ e3 m3
              refine ⟨⟨l3.1.trans m1, l3.2⟩, fun hq => ?_⟩
              simp only [Bool.and_eq_true] at hq
              have hs := setS_same (I := I) hb
              obtain ⟨u, eu, au⟩ : ∃ u, runR (T.env Γ) ((o :: r).take m) (denF I t) (denH I) = some (u, denH I) ∧ Ag (fun d => isLive d ((o :: r).drop m) lv = false) u (denF I (if b then t1 else t2)) := by
                cases b with
                | true => rw [hs] at k1; exact k1 (by simpa using hq.1)
                | false => rw [hs] at k2; exact k2 (by simpa using hq.1)
              have a3 := (join_agS eu l1 l2 ht b1 hm au).1
              obtain ⟨t5, e5, a5⟩ := k3 hq.2
              obtain ⟨t6, e6, a6⟩ := runR_ins _ _ _ u _ _ _ a3.symm (fun i hi => hi) e5
              refine ⟨t6, ?_, a6.symm.trans a5⟩
              have := runR_app ((o :: r).take m) ((o :: r).drop m) _ _ u _ eu
              rw [List.take_append_drop] at this
              rw [this, e6]
            · cases e
          · cases e
        · cases e
      · rename_i hn c hb
        have hgd : (denF I t).getD i undef = .bool c := by rw [getD_den, hb]; rfl
        split at e
        · rename_i hc
          exact go hn (by simp only [want, hg, hgd, hc]) e
        · rename_i hc
          exact skip (by simp only [want, hg, hgd]; simpa using hc) hn e
      · rename_i hn hb
        have hgd : (denF I t).getD i undef = .tuple ⟨[]⟩ := by rw [getD_den, hb]; rfl
        refine skip ?_ hn e
        simp only [want, hg, hgd]
      · cases e

end Go.Am
