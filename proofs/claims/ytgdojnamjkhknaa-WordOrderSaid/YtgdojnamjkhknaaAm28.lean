/-
  The evaluator as a tree, over values that name their blocks: what it says holds.
-/
import Derived.Test.YtgdojnamjkhknaaAm27
namespace Go.Am
set_option linter.all false

/-- What is done at a call whose value isn't a plain table's. -/
abbrev CallS := Nat → SFr → SH → Hs → (SV → SH → Hs → STr) → STr
def noCall : CallS := fun _ _ _ _ _ => .fail
def opUS0 (T : Plain) (C : CallS) (k : IK) (t : SFr) (I : SH) (hn : Hs) (K : SV → SH → Hs → STr) : STr :=
  match k with
  | .pick c a b => match evS t c with
    | .raw (.bool c) => match hn with
      | .val n => match mergeS c (evS t a) (evS t b) with
        | some v => if bndV I.length v then K v I n else .fail
        | none => .fail
      | hn => brS c hn (fun n => if bndV I.length (evS t a) then K (evS t a) I n else .fail) (fun n => if bndV I.length (evS t b) then K (evS t b) I n else .fail)
    | _ => .fail
  | .bin .quo x y => match evS t x, evS t y with
    | .raw (.int k a), .raw (.int k' b) => if k = k' then .req (!(decide (b = 0))) (K (.raw (.int k (k.wrap (a.tdiv b)))) I hn) else .fail
    | _, _ => .fail
  | .bin .rem x y => match evS t x, evS t y with
    | .raw (.int k a), .raw (.int k' b) => if k = k' then .req (!(decide (b = 0))) (K (.raw (.int k (a.tmod b))) I hn) else .fail
    | _, _ => .fail
  | .call f args => match (if args.all fun o => isRaw (evS t o) then T.find f (args.map (ev (rt t))) else none) with
    | some (b, v) => .req b (K (.raw v) I hn)
    | none => C f (args.map (evS t)) I hn K
  | .callv x args => match evS t x with
    | .raw (.func (.func f) a b) => C f (a.toList.map .raw ++ (args.map (evS t) ++ b.toList.map .raw)) I hn K
    | _ => .fail
  | k => match pureS k t I with
    | some v => if bndV I.length v then K v I hn else .fail
    | none => match effS k t I with
      | some (v, J) => if bndV J.length v && J.all (It.bnd J.length) then K v J hn else .fail
      | none => .fail

/-- What an operation does, said of what the values stand for. -/
structure OpS (Γ : Env) (k : IK) (t : SFr) (I : SH) (v : SV) (J : SH) : Prop where
  op : opA Γ k (denF I t) (denH I) = some (denV (ofs J) v, denH J)
  grow : Grow I J
  v : bndV J.length v = true
  h : J.all (It.bnd J.length) = true

/-- The handler's calls are the environment's. -/
def CallOk (Γ : Env) (C : CallS) : Prop := ∀ f (args : SFr) (I : SH) (hn : Hs) (K : SV → SH → Hs → STr) (Q : PostS), Good args I → (C f args I hn K).holds Q →
  ∃ v J n, Γ f (denF I args) (denH I) = some (denV (ofs J) v, denH J) ∧ Grow I J ∧ bndV J.length v = true ∧ J.all (It.bnd J.length) = true ∧ (K v J n).holds Q
theorem noCall_ok (Γ : Env) : CallOk Γ noCall := fun _ _ _ _ _ _ _ e => by cases e
theorem map_evS (I : SH) (t : SFr) (l : List Operand) : l.map (ev (denF I t)) = denF I (l.map (evS t)) := by
  simp only [denF, List.map_map]
  exact List.map_congr_left fun o _ => ev_denF I t o
theorem raws_den (I : SH) (l : List Value) : denF I (l.map .raw) = l := by
  simp only [denF, List.map_map]
  exact List.map_id'' (fun _ => rfl) l
theorem raws_bndV (n : Nat) (z : List Value) : (z.map SV.raw).all (bndV n) = true := by
  rw [List.all_map]
  exact List.all_eq_true.2 fun _ _ => rfl
theorem args_bnd {t : SFr} {n : Nat} (h : t.all (bndV n) = true) (l : List Operand) : (l.map (evS t)).all (bndV n) = true := by
  rw [List.all_map]
  exact List.all_eq_true.2 fun o _ => evS_bnd h o

theorem opUS0_holds {T : Plain} {Γ : Env} {C : CallS} (hC : CallOk (T.env Γ) C) {k : IK} {t : SFr} {I : SH} {hn : Hs} {K : SV → SH → Hs → STr} {Q : PostS} (G : Good t I) (e : (opUS0 T C k t I hn K).holds Q) :
    ∃ v J n, OpS (T.env Γ) k t I v J ∧ (K v J n).holds Q := by
  unfold opUS0 at e
  split at e
  · rename_i c a b
    split at e
    · rename_i c' hc
      have hc' : ev (denF I t) c = .bool c' := by rw [ev_denF, hc]; rfl
      split at e
      · rename_i n
        split at e
        · rename_i v hm
          split at e
          · rename_i hb
            exact ⟨v, I, n, ⟨by simp only [opA, pureA, hc', ev_denF, mergeS_eq (ofs I) hm], .refl I, hb, G.h⟩, e⟩
          · cases e
        · cases e
      · rcases brS_holds e with ⟨hb, n, hk⟩ | ⟨hb, n, hk⟩
        · subst hb
          split at hk
          · rename_i hb; exact ⟨_, I, n, ⟨by simp only [opA, pureA, hc', ev_denF]; rfl, .refl I, hb, G.h⟩, hk⟩
          · cases hk
        · subst hb
          split at hk
          · rename_i hb; exact ⟨_, I, n, ⟨by simp only [opA, pureA, hc', ev_denF]; rfl, .refl I, hb, G.h⟩, hk⟩
          · cases hk
    · cases e
  · split at e
    · rename_i hx hy
      split at e
      · rename_i hkk
        obtain ⟨h1, h2⟩ := e
        exact ⟨_, I, _, ⟨(div_ok (op := .quo) hx hy hkk (by simpa using h1)).1, .refl I, rfl, G.h⟩, h2⟩
      · cases e
    · cases e
  · split at e
    · rename_i hx hy
      split at e
      · rename_i hkk
        obtain ⟨h1, h2⟩ := e
        exact ⟨_, I, _, ⟨(div_ok (op := .quo) hx hy hkk (by simpa using h1)).2, .refl I, rfl, G.h⟩, h2⟩
      · cases e
    · cases e
  · rename_i f args
    split at e
    · rename_i b v hf
      split at hf
      · rename_i ha
        obtain ⟨h1, h2⟩ := e
        subst h1
        exact ⟨.raw v, I, _, ⟨call_ok ha hf, .refl I, rfl, G.h⟩, h2⟩
      · cases hf
    · obtain ⟨v, J, n, c1, c2, c3, c4, c5⟩ := hC f _ I hn K Q ⟨args_bnd G.t args, G.h⟩ e
      exact ⟨v, J, n, ⟨by simp only [opA, map_evS, c1], c2, c3, c4⟩, c5⟩
  · rename_i x args
    split at e
    · rename_i f a b hx
      have hx' : ev (denF I t) x = .func (.func f) a b := by rw [ev_denF, hx]; rfl
      obtain ⟨v, J, n, c1, c2, c3, c4, c5⟩ := hC f _ I hn K Q ⟨by
        rw [List.all_append, List.all_append, raws_bndV, args_bnd G.t args, raws_bndV]; rfl, G.h⟩ e
      have hd : ∀ (p q r : SFr), denF I (p ++ (q ++ r)) = denF I p ++ (denF I q ++ denF I r) := fun p q r => by simp only [denF, List.map_append]
      rw [hd, raws_den, raws_den] at c1
      exact ⟨v, J, n, ⟨by simp only [opA, hx', map_evS, c1], c2, c3, c4⟩, c5⟩
    · cases e
  · split at e
    · rename_i v hv
      split at e
      · rename_i hb; exact ⟨v, I, _, ⟨pureS_ok hv, .refl I, hb, G.h⟩, e⟩
      · cases e
    · split at e
      · rename_i v J hv
        split at e
        · rename_i hb
          simp only [Bool.and_eq_true] at hb
          obtain ⟨q1, q2⟩ := effS_ok (Γ := T.env Γ) hv G
          exact ⟨v, J, _, ⟨q1, q2, hb.1, hb.2⟩, e⟩
        · cases e
      · cases e

/-- An operation's kind, by number. -/
def kc : IK → Nat
  | .mov _ => 1
  | .pick _ _ _ => 2
  | .box _ => 3
  | .alloc _ => 4
  | .build _ _ => 5
  | .mkrow _ _ _ => 6
  | .load _ _ => 7
  | .store _ _ _ => 8
  | .nilck _ => 9
  | .bin _ _ _ => 10
  | .eqv _ _ _ _ => 11
  | .un _ _ => 12
  | .conv _ _ => 13
  | .b2s _ => 14
  | .mkfun _ _ _ => 15
  | .mkslice _ _ _ _ _ => 16
  | .slice _ _ _ _ _ => 17
  | .strsl _ _ _ => 18
  | .slarr _ _ _ _ _ => 19
  | .fld _ _ _ => 20
  | .fadr _ _ => 21
  | .iadr _ _ _ _ => 22
  | .idx _ _ _ _ _ => 23
  | .sidx _ _ => 24
  | .ext _ _ => 25
  | .call _ _ => 26
  | .callv _ _ => 27
  | .len _ => 28
  | .slen _ => 29
  | .append _ _ _ _ => 30
  | .copy _ _ _ => 31
  | .mn _ _ => 32
  | .mx _ _ => 33
  | .bad => 34
def opUS (T : Plain) (Γ : Env) (C : CallS) (d : Nat) (k : IK) (t : SFr) (I : SH) (hn : Hs) (K : SV → SH → Hs → STr) : STr :=
  match hn with
  | .use j v D n => if j = d + 1000000 * kc k then match D.go I with
      | some (J, ps) => if bndV J.length v then claims ps (.claim (opC (T.env Γ) k (denF I t) (denH I) = some (denV (ofs J) v, denH J)) (K v J n)) else .fail
      | none => .fail
    else opUS0 T C k t I hn K
  | .pur j v n => if j = d + 1000000 * kc k then if heapFree k then .claim (opC (T.env Γ) k (denF I t) [] = some (v, [])) (K (.raw v) I n) else .fail else opUS0 T C k t I hn K
  | .bas j v n => if j = d + 1000000 * kc k then match I with
      | .seg H :: _ => if effK k then .fail else .claim (opC (T.env Γ) k (denF I t) H = some (v, H)) (K (.raw v) I n)
      | _ => .fail
    else opUS0 T C k t I hn K
  | hn => opUS0 T C k t I hn K
theorem opUS_holds {T : Plain} {Γ : Env} {C : CallS} (hC : CallOk (T.env Γ) C) {d : Nat} {k : IK} {t : SFr} {I : SH} {hn : Hs} {K : SV → SH → Hs → STr} {Q : PostS} (G : Good t I) (e : (opUS T Γ C d k t I hn K).holds Q) :
    ∃ v J n, OpS (T.env Γ) k t I v J ∧ (K v J n).holds Q := by
  unfold opUS at e
  split at e
  · rename_i j v D n
    split at e
    · split at e
      · rename_i J ps hD
        split at e
        · rename_i hb
          obtain ⟨c1, c2, c3⟩ := claims_holds _ e
          obtain ⟨g1, g2⟩ := Dl.go_ok hD c1
          exact ⟨v, J, n, ⟨by rw [← opC_eq]; exact c2, g1, hb, g2⟩, c3⟩
        · cases e
      · cases e
    · exact opUS0_holds hC G e
  · rename_i j v n
    split at e
    · split at e
      · rename_i hf
        obtain ⟨c1, c2⟩ := e
        rw [opC_eq] at c1
        exact ⟨.raw v, I, n, ⟨(opA_free hf c1).2, .refl I, rfl, G.h⟩, c2⟩
      · cases e
    · exact opUS0_holds hC G e
  · rename_i j v n
    split at e
    · split at e
      · rename_i H I0
        split at e
        · cases e
        · rename_i hf
          obtain ⟨c1, c2⟩ := e
          have hf' : effK k = false := by simpa using hf
          rw [opC_eq, opA_pure hf'] at c1
          refine ⟨.raw v, _, n, ⟨?_, .refl _, rfl, G.h⟩, c2⟩
          split at c1
          · rename_i u hu
            cases c1
            rw [opA_pure hf']
            have : denH (.seg H :: I0) = H ++ denL (ofs (.seg H :: I0)) I0 := rfl
            rw [this, pureA_more hu]
            rfl
          · cases c1
      · cases e
    · exact opUS0_holds hC G e
  · exact opUS0_holds hC G e

def runUS (T : Plain) (Γ : Env) (C : CallS) : Nat → List IOp → SFr → SH → Hs → Lv → (SFr → SH → Hs → STr) → STr
  | 0, _, _, _, _, _, _ => .fail
  | _ + 1, [], t, I, hn, _, K => K t I hn
  | n + 1, o :: r, t, I, hn, lv, K =>
    let go (t : SFr) (hn : Hs) : STr := opUS T Γ C (o.dst.getD 9999) o.k t I hn fun v J hn => runUS T Γ C n r (putS t o.dst v) J hn lv K
    let skip (t : SFr) (hn : Hs) : STr := runUS T Γ C n r (putS t o.dst sund) I hn lv K
    match o.g with
    | none => go t hn
    | some (i, p) => match t.getD i sund with
      | .raw (.bool b) => match hn with
        | .join m hl hr hk =>
          let lj : Lv := fun d => isLive d ((o :: r).drop m) lv
          match runJS T n ((o :: r).take m) (t.set i (.raw (.bool true))) I hl lj, runJS T n ((o :: r).take m) (t.set i (.raw (.bool false))) I hr lj with
          | some (q1, t1, _), some (q2, t2, _) => match mergeFS b lj t1 t2 (((o :: r).take m).filterMap (·.dst)) t with
            | some t3 => .req (bif b then q1 else q2) (runUS T Γ C n ((o :: r).drop m) t3 I hk lv K)
            | none => .fail
          | _, _ => .fail
        | hn => brS b hn (fun n => match p with | true => go (t.set i (.raw (.bool true))) n | false => skip (t.set i (.raw (.bool true))) n) (fun n => match p with | true => skip (t.set i (.raw (.bool false))) n | false => go (t.set i (.raw (.bool false))) n)
      | .raw (.tuple ⟨[]⟩) => skip t hn
      | _ => .fail

theorem OpS.put {Γ : Env} {k : IK} {t : SFr} {I J : SH} {v : SV} (o : OpS Γ k t I v J) (G : Good t I) (d : Option Nat) : Good (putS t d v) J ∧ denF J (putS t d v) = put (denF I t) d (denV (ofs J) v) :=
  ⟨⟨putS_bnd (all_up (bndV_up o.grow.le) G.t) o.v, o.h⟩, by rw [putS_den, o.grow.denF G.t]⟩

theorem runUS_holds {T : Plain} {Γ : Env} {C : CallS} (hC : CallOk (T.env Γ) C) {Q : PostS} {K : SFr → SH → Hs → STr} : ∀ (n : Nat) (l : List IOp) (t : SFr) (I : SH) (hn : Hs) (lv : Lv), Good t I → (runUS T Γ C n l t I hn lv K).holds Q →
    ∃ t1 s J m, runR (T.env Γ) l (denF I t) (denH I) = some (t1, denH J) ∧ Ag (fun i => lv i = false) t1 (denF J s) ∧ (Good s J ∧ Grow I J) ∧ (K s J m).holds Q
  | 0, _, _, _, _, _, _, e => by cases e
  | n + 1, [], t, I, hn, lv, G, e => ⟨_, t, I, hn, rfl, .refl _, ⟨G, .refl I⟩, e⟩
  | n + 1, o :: r, t, I, hn, lv, G, e => by
    have go : ∀ (s : SFr) hn, denF I s = denF I t → Good s I → want (denF I t) o.g = true → (opUS T Γ C (o.dst.getD 9999) o.k s I hn fun v J hn => runUS T Γ C n r (putS s o.dst v) J hn lv K).holds Q →
        ∃ t1 s J m, runR (T.env Γ) (o :: r) (denF I t) (denH I) = some (t1, denH J) ∧ Ag (fun i => lv i = false) t1 (denF J s) ∧ (Good s J ∧ Grow I J) ∧ (K s J m).holds Q := by
      intro s hn hs Gs hw e
      obtain ⟨v, J, n1, h2, h3⟩ := opUS_holds hC Gs e
      obtain ⟨p1, p2⟩ := h2.put Gs o.dst
      obtain ⟨t1, s1, J1, n2, h4, h5, h6, h7⟩ := runUS_holds hC n r _ _ _ _ p1 h3
      rw [p2] at h4
      exact ⟨t1, s1, J1, n2, by rw [← hs]; rw [← hs] at hw; simp only [runR, hw, if_true, h2.op, h4], h5, ⟨h6.1, h2.grow.trans h6.2⟩, h7⟩
    have skip : ∀ (s : SFr) hn, denF I s = denF I t → Good s I → want (denF I t) o.g = false → (runUS T Γ C n r (putS s o.dst sund) I hn lv K).holds Q →
        ∃ t1 s J m, runR (T.env Γ) (o :: r) (denF I t) (denH I) = some (t1, denH J) ∧ Ag (fun i => lv i = false) t1 (denF J s) ∧ (Good s J ∧ Grow I J) ∧ (K s J m).holds Q := by
      intro s hn hs Gs hw e
      obtain ⟨t1, s1, J1, n2, h4, h5, h6, h7⟩ := runUS_holds hC n r _ _ _ _ ⟨putS_bnd (d := o.dst) Gs.t (v := sund) rfl, Gs.h⟩ e
      rw [putS_den, hs] at h4
      exact ⟨t1, s1, J1, n2, by simp only [runR, hw, Bool.false_eq_true, if_false]; exact h4, h5, h6, h7⟩
    unfold runUS at e
    dsimp only at e
    split at e
    · rename_i hg
      exact go t hn rfl G (by simp [want, hg]) e
    · rename_i i p hg
      split at e
      · rename_i b hb
        have hgd : (denF I t).getD i undef = .bool b := by rw [getD_den, hb]; rfl
        have hs := setS_same (I := I) hb
        have Gi : ∀ c, Good (t.set i (.raw (.bool c))) I := fun c => ⟨putS_bnd (d := some i) G.t rfl, G.h⟩
        split at e
        · rename_i m hl hr hk
          split at e
          · rename_i q1 t1 n1 q2 t2 n2 e1 e2
            split at e
            · rename_i t3 hm
              obtain ⟨hq, e⟩ := e
              obtain ⟨⟨l1, b1⟩, k1⟩ := runJS_ok (Γ := Γ) n _ _ I _ _ _ _ _ e1 (Gi true).t
              obtain ⟨⟨l2, b2⟩, k2⟩ := runJS_ok (Γ := Γ) n _ _ I _ _ _ _ _ e2 (Gi false).t
              rw [List.length_set] at l1 l2
              obtain ⟨u, eu, au⟩ : ∃ u, runR (T.env Γ) ((o :: r).take m) (denF I t) (denH I) = some (u, denH I) ∧ Ag (fun d => isLive d ((o :: r).drop m) lv = false) u (denF I (if b then t1 else t2)) := by
                cases b with
                | true => rw [hs] at k1; exact k1 (by simpa using hq)
                | false => rw [hs] at k2; exact k2 (by simpa using hq)
              obtain ⟨a3, a4, a5⟩ := join_agS eu l1 l2 G.t b1 hm au
              obtain ⟨t5, s5, J5, n5, h4, h5, h6, h7⟩ := runUS_holds hC n _ _ _ _ _ ⟨a5, G.h⟩ e
              obtain ⟨t6, e6, a6⟩ := runR_ins _ _ _ u _ _ _ a3.symm (fun i hi => hi) h4
              refine ⟨t6, s5, J5, n5, ?_, a6.symm.trans h5, h6, h7⟩
              have := runR_app ((o :: r).take m) ((o :: r).drop m) _ _ u _ eu
              rw [List.take_append_drop] at this
              rw [this, e6]
            · cases e
          · cases e
        · rcases brS_holds e with ⟨hq, m, hk⟩ | ⟨hq, m, hk⟩
          · subst hq
            cases p with
            | true => exact go _ m hs (Gi true) (by simp only [want, hg, hgd]; rfl) hk
            | false => exact skip _ m hs (Gi true) (by simp only [want, hg, hgd]; rfl) hk
          · subst hq
            cases p with
            | true => exact skip _ m hs (Gi false) (by simp only [want, hg, hgd]; rfl) hk
            | false => exact go _ m hs (Gi false) (by simp only [want, hg, hgd]; rfl) hk
      · rename_i hb
        have hgd : (denF I t).getD i undef = .tuple ⟨[]⟩ := by rw [getD_den, hb]; rfl
        exact skip t hn rfl G (by simp only [want, hg, hgd]) e
      · cases e

/-! ### Drawn regions -/
def opQS (T : Plain) (k : IK) (t : SFr) (I : SH) : Option (Bool × SV × SH) :=
  match k with
  | .pick c a b => match evS t c with
    | .raw (.bool true) => if bndV I.length (evS t a) then some (true, evS t a, I) else none
    | .raw (.bool false) => if bndV I.length (evS t b) then some (true, evS t b, I) else none
    | _ => none
  | .bin .quo x y => match evS t x, evS t y with
    | .raw (.int k a), .raw (.int k' b) => if k = k' then some (!(decide (b = 0)), .raw (.int k (k.wrap (a.tdiv b))), I) else none
    | _, _ => none
  | .bin .rem x y => match evS t x, evS t y with
    | .raw (.int k a), .raw (.int k' b) => if k = k' then some (!(decide (b = 0)), .raw (.int k (a.tmod b)), I) else none
    | _, _ => none
  | .call f args => if args.all fun o => isRaw (evS t o) then match T.find f (args.map (ev (rt t))) with
      | some (b, v) => some (b, .raw v, I)
      | none => none
    else none
  | k => match pureS k t I with
    | some v => if bndV I.length v then some (true, v, I) else none
    | none => match effS k t I with
      | some (v, J) => if bndV J.length v && J.all (It.bnd J.length) then some (true, v, J) else none
      | none => none
theorem opQS_ok {T : Plain} {Γ : Env} {k : IK} {t : SFr} {I J : SH} {q : Bool} {v : SV} (G : Good t I) (e : opQS T k t I = some (q, v, J)) (hq : q = true) : OpS (T.env Γ) k t I v J := by
  unfold opQS at e
  split at e
  · rename_i c a b
    split at e
    · rename_i hc
      have hc' : ev (denF I t) c = .bool true := by rw [ev_denF, hc]; rfl
      split at e
      · rename_i hb; cases e; exact ⟨by simp only [opA, pureA, hc', ev_denF]; rfl, .refl I, hb, G.h⟩
      · cases e
    · rename_i hc
      have hc' : ev (denF I t) c = .bool false := by rw [ev_denF, hc]; rfl
      split at e
      · rename_i hb; cases e; exact ⟨by simp only [opA, pureA, hc', ev_denF]; rfl, .refl I, hb, G.h⟩
      · cases e
    · cases e
  · split at e
    · rename_i hx hy
      split at e
      · rename_i hkk
        cases e
        exact ⟨(div_ok (op := .quo) hx hy hkk (by simpa using hq)).1, .refl I, rfl, G.h⟩
      · cases e
    · cases e
  · split at e
    · rename_i hx hy
      split at e
      · rename_i hkk
        cases e
        exact ⟨(div_ok (op := .quo) hx hy hkk (by simpa using hq)).2, .refl I, rfl, G.h⟩
      · cases e
    · cases e
  · split at e
    · rename_i ha
      split at e
      · rename_i b v hf
        cases e
        subst hq
        exact ⟨call_ok ha hf, .refl I, rfl, G.h⟩
      · cases e
    · cases e
  · split at e
    · rename_i v hv
      split at e
      · rename_i hb; cases e; exact ⟨pureS_ok hv, .refl I, hb, G.h⟩
      · cases e
    · split at e
      · rename_i v J hv
        split at e
        · rename_i hb
          cases e
          simp only [Bool.and_eq_true] at hb
          obtain ⟨q1, q2⟩ := effS_ok (Γ := T.env Γ) hv G
          exact ⟨q1, q2, hb.1, hb.2⟩
        · cases e
      · cases e

def wantS (t : SFr) : Option (Nat × Bool) → Option Bool
  | none => some true
  | some (i, p) => match t.getD i sund with
    | .raw (.bool c) => some (c == p)
    | .raw (.tuple ⟨[]⟩) => some false
    | _ => none
theorem wantS_ok {I : SH} {t : SFr} {g : Option (Nat × Bool)} {b : Bool} (e : wantS t g = some b) : want (denF I t) g = b := by
  unfold wantS at e
  split at e
  · cases e; rfl
  · rename_i i p
    split at e
    · rename_i c hc
      have hgd : (denF I t).getD i undef = .bool c := by rw [getD_den, hc]; rfl
      cases e
      simp only [want, hgd]
    · rename_i hc
      have hgd : (denF I t).getD i undef = .tuple ⟨[]⟩ := by rw [getD_den, hc]; rfl
      cases e
      simp only [want, hgd]
    · cases e
def runQS (T : Plain) : List IOp → SFr → SH → Option (Bool × SFr × SH)
  | [], t, I => some (true, t, I)
  | o :: r, t, I => match wantS t o.g with
    | some true => match opQS T o.k t I with
      | some (q, v, J) => match runQS T r (putS t o.dst v) J with
        | some (q2, t2, J2) => some (q && q2, t2, J2)
        | none => none
      | none => none
    | some false => runQS T r (putS t o.dst sund) I
    | none => none
theorem runQS_ok {T : Plain} {Γ : Env} : ∀ (l : List IOp) (t : SFr) (I : SH) (q : Bool) (t' : SFr) (J : SH), runQS T l t I = some (q, t', J) → q = true → Good t I →
    runR (T.env Γ) l (denF I t) (denH I) = some (denF J t', denH J) ∧ Grow I J ∧ Good t' J
  | [], t, I, q, t', J, e, _, G => by cases e; exact ⟨rfl, .refl I, G⟩
  | o :: r, t, I, q, t', J, e, hq, G => by
    simp only [runQS] at e
    simp only [runR]
    split at e
    · rename_i hw
      rw [wantS_ok (I := I) hw]
      split at e
      · rename_i q1 v h1 ho
        split at e
        · rename_i q2 t2 h2 hr
          cases e
          simp only [Bool.and_eq_true] at hq
          have o1 := opQS_ok (Γ := Γ) G ho hq.1
          obtain ⟨p1, p2⟩ := o1.put G o.dst
          obtain ⟨a, b, c⟩ := runQS_ok (Γ := Γ) r _ _ _ _ _ hr hq.2 p1
          rw [p2] at a
          exact ⟨by simp only [if_true, o1.op, a], o1.grow.trans b, c⟩
        · cases e
      · cases e
    · rename_i hw
      rw [wantS_ok (I := I) hw]
      have := runQS_ok (Γ := Γ) r _ _ _ _ _ e hq ⟨putS_bnd (d := o.dst) G.t (v := sund) rfl, G.h⟩
      rw [putS_den] at this
      rw [if_neg (by decide)]
      exact this
    · cases e
theorem runQS_app {T : Plain} : ∀ (a b : List IOp) (t : SFr) (I : SH) (q : Bool) (t1 : SFr) (I1 : SH) (q' : Bool) (t2 : SFr) (I2 : SH), runQS T a t I = some (q, t1, I1) → runQS T (a ++ b) t I = some (q', t2, I2) →
    ∃ q2, runQS T b t1 I1 = some (q2, t2, I2) ∧ (q' = true → q2 = true)
  | [], b, t, I, q, t1, I1, q', t2, I2, e1, e2 => by cases e1; exact ⟨q', e2, id⟩
  | o :: r, b, t, I, q, t1, I1, q', t2, I2, e1, e2 => by
    simp only [runQS, List.cons_append] at e1 e2
    split at e1
    · rename_i hw
      rw [hw] at e2
      dsimp only at e2
      split at e1
      · rename_i q1 v J ho
        rw [ho] at e2
        dsimp only at e2
        split at e1
        · rename_i q3 t3 J3 hr
          cases e1
          split at e2
          · rename_i q4 t4 J4 hr4
            cases e2
            obtain ⟨q2, z1, z2⟩ := runQS_app r b _ _ _ _ _ _ _ _ hr hr4
            exact ⟨q2, z1, fun h => z2 (by simp only [Bool.and_eq_true] at h; exact h.2)⟩
          · cases e2
        · cases e1
      · cases e1
    · rename_i hw
      rw [hw] at e2
      exact runQS_app r b _ _ _ _ _ _ _ _ e1 e2
    · cases e1

/-- A frame without what lies above. -/
def cutS (n : Nat) (t : SFr) : SFr := t.map fun v => if bndV n v then v else sund
theorem cutS_good {t : SFr} {I : SH} (hI : I.all (It.bnd I.length) = true) : Good (cutS I.length t) I := ⟨by
  unfold cutS
  rw [List.all_map]
  refine List.all_eq_true.2 fun v _ => ?_
  simp only [Function.comp]
  split
  · rename_i h; exact h
  · rfl, hI⟩
theorem cutS_ev {t : SFr} {n : Nat} {o : Operand} (h : bndV n (evS t o) = true) : evS (cutS n t) o = evS t o := by
  cases o with
  | tmp i =>
    simp only [evS, cutS, List.getD, List.getElem?_map] at h ⊢
    cases hi : t[i]? with
    | none => rfl
    | some v => rw [hi] at h; simp only [Option.getD_some] at h; simp [h]
  | _ => rfl
/-- Two heaps of one walk. -/
def Near (I J : SH) : Prop := ∀ k, k ≤ I.length → k ≤ J.length → ofs I k = ofs J k
theorem Grow.near {I J : SH} (g : Grow I J) : Near I J := fun k h _ => (g.ofs k h).symm
theorem Near.symm {I J : SH} (g : Near I J) : Near J I := fun k h h' => (g k h' h).symm
theorem near_op {Γ : Env} {k : IK} {t : SFr} {I J : SH} {h : Heap} (N : Near I J) (hI : t.all (bndV I.length) = true) (hb : ((opnds k).all fun o => bndV J.length (evS t o)) = true) : opA Γ k (denF I t) h = opA Γ k (denF J (cutS J.length t)) h := by
  refine opA_congr fun o ho => ?_
  have h1 := List.all_eq_true.1 hb o ho
  rw [ev_denF, ev_denF, cutS_ev h1]
  rcases Nat.le_total I.length J.length with q | q
  · exact denV_congr (n := I.length) (fun k hk => N k (by omega) (by omega)) _ (evS_bnd hI o)
  · exact denV_congr (n := J.length) (fun k hk => N k (by omega) (by omega)) _ h1

/-- Values at two heaps: do they stand for the same? -/
def eqQ (n : Nat) : SV → SV → Bool
  | .raw a, .raw b => eqV a b
  | .ptr a b, .ptr c d => decide (a = c) && (decide (b = d) && decide (a < n))
  | .sl a b c d, .sl x y z w => decide (a = x) && (decide (b = y) && (decide (c = z) && (decide (d = w) && decide (a < n))))
  | _, _ => false
theorem eqQ_ok {f g : Nat → Nat} {n : Nat} (h : ∀ k, k < n → f k = g k) {u v : SV} (e : eqQ n u v = true) : eqV (denV f u) (denV g v) = true := by
  unfold eqQ at e
  split at e
  · exact e
  · simp only [Bool.and_eq_true, decide_eq_true_eq] at e
    obtain ⟨rfl, rfl, hn⟩ := e
    simp only [denV, denA, den0, h _ hn, eqV, eqAg, eq0, decide_true]
  · simp only [Bool.and_eq_true, decide_eq_true_eq] at e
    obtain ⟨rfl, rfl, rfl, rfl, hn⟩ := e
    simp only [denV, denA, den0, h _ hn, eqV, eqAg, eq0, decide_true, Bool.and_self]
  · cases e

def crossQS (T : Plain) (os : List IOp) (t : SFr) (I : SH) : List (Nat × Nat) → Bool
  | [] => true
  | (i, j) :: r => (match os[i]?, runQS T (os.take i) t I, runQS T (os.take (if i < j then j + 1 else j)) t I with
    | some x, some (q1, ti, Ii), some (q2, _, Ij) => q1 && (q2 && (match wantS ti x.g with
      | some true => ((opnds x.k).all fun o => bndV Ij.length (evS ti o)) && (match opQS T x.k ti Ii, opQS T x.k (cutS Ij.length ti) Ij with
        | some (q3, v, _), some (q4, v', _) => q3 && (q4 && eqQ (min Ii.length Ij.length) v v')
        | _, _ => false)
      | some false => true
      | none => false))
    | _, _, _ => false) && crossQS T os t I r

theorem prefix_near {T : Plain} {os : List IOp} {t : SFr} {I : SH} (G : Good t I) : ∀ (i j : Nat), i ≤ j → ∀ {qi : Bool} {ti : SFr} {Ii : SH} {qj : Bool} {tj : SFr} {Ij : SH}, runQS T (os.take i) t I = some (qi, ti, Ii) → qi = true →
    runQS T (os.take j) t I = some (qj, tj, Ij) → qj = true → Near Ii Ij := by
  intro i j hij qi ti Ii qj tj Ij h1 hq1 h2 hq2
  have he : os.take j = os.take i ++ (os.take j).drop i := by
    have := (List.take_append_drop i (os.take j)).symm
    rw [List.take_take, Nat.min_eq_left hij] at this
    exact this
  rw [he] at h2
  obtain ⟨q2, z1, z2⟩ := runQS_app _ _ _ _ _ _ _ _ _ _ h1 h2
  obtain ⟨_, _, G1⟩ := runQS_ok (Γ := noEnv) _ _ _ _ _ _ h1 hq1 G
  exact (runQS_ok (Γ := noEnv) _ _ _ _ _ _ z1 (z2 hq2) G1).2.1.near

theorem crossQS_ok {T : Plain} {Γ : Env} {os : List IOp} {t : SFr} {I : SH} (G : Good t I) : ∀ (X : List (Nat × Nat)), crossQS T os t I X = true → crossB (T.env Γ) os (denF I t) (denH I) X = true
  | [], _ => rfl
  | (i, j) :: r, e => by
    simp only [crossQS, Bool.and_eq_true] at e
    simp only [crossB, Bool.and_eq_true]
    refine ⟨?_, crossQS_ok G r e.2⟩
    have e1 := e.1
    split at e1
    · rename_i x q1 ti Ii q2 tj Ij hx r1 r2
      simp only [Bool.and_eq_true] at e1
      obtain ⟨g1, g2, g3⟩ := e1
      obtain ⟨a1, a2, a3⟩ := runQS_ok (Γ := Γ) _ _ _ _ _ _ r1 g1 G
      obtain ⟨b1, b2, b3⟩ := runQS_ok (Γ := Γ) _ _ _ _ _ _ r2 g2 G
      have N : Near Ii Ij := by
        by_cases hij : i < j
        · rw [if_pos hij] at r2
          exact prefix_near G i (j + 1) (by omega) r1 g1 r2 g2
        · rw [if_neg hij] at r2
          exact (prefix_near G j i (by omega) r2 g2 r1 g1).symm
      rw [hx, a1, b1]
      dsimp only
      split at g3
      · rename_i hw
        rw [wantS_ok (I := Ii) hw, if_pos rfl]
        simp only [Bool.and_eq_true] at g3
        obtain ⟨g4, g5⟩ := g3
        split at g5
        · rename_i q3 v J1 q4 v' J2 o1 o2
          simp only [Bool.and_eq_true] at g5
          have p1 := opQS_ok (Γ := Γ) a3 o1 g5.1
          have p2 := opQS_ok (Γ := Γ) (cutS_good b3.h) o2 g5.2.1
          rw [p1.op, near_op N a3.t g4, p2.op]
          refine eqQ_ok (n := min Ii.length Ij.length) (fun k hk => ?_) g5.2.2
          rw [p1.grow.ofs k (by omega), p2.grow.ofs k (by omega)]
          exact N k (by omega) (by omega)
        · cases g5
      · rename_i hw
        rw [wantS_ok (I := Ii) hw]
        simp
      · cases g3
    · cases e1

end Go.Am
