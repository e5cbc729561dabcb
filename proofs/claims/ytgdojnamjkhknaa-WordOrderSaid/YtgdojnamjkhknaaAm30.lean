/-
  Pieces and functions walked, calls walked in place.
-/
import Derived.Test.YtgdojnamjkhknaaAm29
namespace Go.Am
set_option linter.all false

/-! ### Calls that are walked in place -/
def argsUp (F : FnIL) (args : SFr) : SFr := args ++ List.replicate (F.ntmps - args.length) sund
theorem argsUp_good {F : FnIL} {args : SFr} {I : SH} (G : Good args I) : Good (argsUp F args) I := ⟨by
    unfold argsUp
    rw [List.all_append, G.t, Bool.true_and]
    refine List.all_eq_true.2 fun v hv => ?_
    rw [(List.mem_replicate.1 hv).2]
    rfl, G.h⟩
theorem argsUp_den (F : FnIL) (args : SFr) (I : SH) : denF I (argsUp F args) = denF I args ++ List.replicate (F.ntmps - (denF I args).length) undef := by
  simp only [argsUp, denF, List.map_append, List.map_replicate, List.length_map]; rfl
/-- What running a body comes to. -/
def RunsTo (Γ : Env) (F : FnIL) (args : List Value) (h : Heap) (v : Value) (h' : Heap) : Prop :=
  ∃ n e t', execF Γ n F.body (args ++ List.replicate (F.ntmps - args.length) undef) h = some (e, t', h') ∧ (e = .normal ∨ e = .ret) ∧ resA t' h' F.res = some v
theorem RunsTo.uniq {Γ : Env} {F : FnIL} {args : List Value} {h : Heap} {v v1 : Value} {h' h1 : Heap} (a : RunsTo Γ F args h v h') (b : RunsTo Γ F args h v1 h1) : v = v1 ∧ h' = h1 := by
  obtain ⟨n, e, t, a1, a2, a3⟩ := a
  obtain ⟨m, e', t', b1, b2, b3⟩ := b
  have p := execF_mono n (max n m) _ _ _ _ (by omega) a1
  have q := execF_mono m (max n m) _ _ _ _ (by omega) b1
  rw [p] at q
  cases q
  rw [a3] at b3
  cases b3
  exact ⟨rfl, rfl⟩
noncomputable def runE (Γ : Env) (F : FnIL) (args : List Value) (h : Heap) : Option (Value × Heap) :=
  open Classical in if H : ∃ r : Value × Heap, RunsTo Γ F args h r.1 r.2 then some (Classical.choose H) else none
theorem runE_some {Γ : Env} {F : FnIL} {args : List Value} {h : Heap} {v : Value} {h' : Heap} (q : RunsTo Γ F args h v h') : runE Γ F args h = some (v, h') := by
  unfold runE
  have H : ∃ r : Value × Heap, RunsTo Γ F args h r.1 r.2 := ⟨(v, h'), q⟩
  rw [dif_pos H]
  have q2 := (Classical.choose_spec H).uniq q
  cases hc : Classical.choose H with
  | mk a b => rw [hc] at q2; obtain ⟨rfl, rfl⟩ := q2; rfl
theorem runE_of {Γ : Env} {F : FnIL} {args : List Value} {h : Heap} {v : Value} {h' : Heap} (e : runE Γ F args h = some (v, h')) : RunsTo Γ F args h v h' := by
  unfold runE at e
  split at e
  · rename_i H
    have q := Classical.choose_spec H
    cases hc : Classical.choose H with
    | mk a b => rw [hc] at e q; cases e; exact q
  · cases e
/-- Calls to a table's functions are their bodies' runs, to so many calls within calls. -/
noncomputable def inE (T : Plain) (B : Tab) : Nat → Env → Env
  | 0, Γ => Γ
  | k + 1, Γ => fun f args h => match B.find f with
    | some F => runE (T.env (inE T B k Γ)) F args h
    | none => Γ f args h
def noQt (qt : List Nat) (B : Tab) : Prop := ∀ f F, B.find f = some F → qt.contains f = false
theorem inE_quiet {qt : List Nat} {T : Plain} {B : Tab} {Γ : Env} (hq : QuietEnv qt Γ) (hB : noQt qt B) : ∀ k, QuietEnv qt (inE T B k Γ)
  | 0 => hq
  | k + 1 => fun f args h v h' hf e => by
    simp only [inE] at e
    split at e
    · rename_i F hF
      rw [hB f F hF] at hf; cases hf
    · exact hq f args h v h' hf e
theorem inE_ok {P : Program} {qt : List Nat} (hm : P.follows .mixedOrders = true) {T : Plain} (hT : PlainOk P T) {B : Tab} (hB : TabOk P qt B) (hn : noQt qt B) {Γ : Env} (hΓ : EnvOk P Γ) (hq : QuietEnv qt Γ) : ∀ k, EnvOk P (inE T B k Γ)
  | 0 => hΓ
  | k + 1 => fun f args h v h' e => by
    simp only [inE] at e
    split at e
    · rename_i F hF
      obtain ⟨n, ex, t', r1, r2, r3⟩ := runE_of e
      exact fn_sim (hB f F hF) (execF_sim hm (Plain.ok hT (inE_ok hm hT hB hn hΓ hq k)) (Plain.quiet (inE_quiet hq hn k)) n F.body _ h ex t' h' _ r1 ⟨by rcases r2 with rfl | rfl <;> simp [Ex.ex], v, r3, rfl, rfl⟩)
    · exact hΓ f args h v h' e
/-- A call, walked. -/
noncomputable def callS (T : Plain) (B : Tab) (Γ : Env) (fuel : Nat) : Nat → CallS
  | 0 => noCall
  | k + 1 => fun f args I hn K => if T.any (fun p => p.1 == f) then .fail else match B.find f with
      | some F => execS T (inE T B k Γ) (callS T B Γ fuel k) fuel F.body (argsUp F args) I hn (resLv F.res) fun e t J hn => match e with
        | .exit _ => .fail
        | _ => match resS t J F.res with
          | some v => if bndV J.length v then K v J hn else .fail
          | none => .fail
      | none => .fail
theorem find_none {T : Plain} {f : Nat} (h : T.any (fun p => p.1 == f) = false) : T.find f = fun _ => none := by
  induction T with
  | nil => rfl
  | cons p r ih =>
    obtain ⟨g, S⟩ := p
    simp only [List.any_cons, Bool.or_eq_false_iff] at h
    have h1 : ¬ f = g := fun q => by subst q; simp at h
    unfold Plain.find
    rw [if_neg h1]
    exact ih h.2
theorem callS_ok {T : Plain} {B : Tab} {Γ : Env} {fuel : Nat} : ∀ (k : Nat), CallOk (T.env (inE T B k Γ)) (callS T B Γ fuel k)
  | 0 => noCall_ok _
  | k + 1 => fun f args I hn K Q G e => by
    simp only [callS] at e
    split at e
    · cases e
    · rename_i hT
      have hT' : T.find f = fun _ => none := find_none (Bool.eq_false_iff.2 hT)
      split at e
      · rename_i F hF
        obtain ⟨n, ex, t', h', s, r1, r2, t, J, m, q1, q2, q3, q4⟩ := execS_holds (callS_ok k) fuel F.body _ I hn (resLv F.res) _ (argsUp_good (F := F) G) e
        subst q1 q2
        have key : ∀ (hne : ex = .normal ∨ ex = .ret), (match resS t J F.res with
          | some v => if bndV J.length v then K v J m else .fail
          | none => .fail).holds Q → ∃ v J n, T.env (inE T B (k + 1) Γ) f (denF I args) (denH I) = some (denV (ofs J) v, denH J) ∧ Grow I J ∧ bndV J.length v = true ∧ J.all (It.bnd J.length) = true ∧ (K v J n).holds Q := by
          intro hne q
          split at q
          · rename_i v hv
            split at q
            · rename_i hb
              have hr := resS_ok hv
              have hr' : resA t' (denH J) F.res = some (denV (ofs J) v) := by
                rw [← hr]
                simp only [resA, resAs_ag r2 F.res fun i q => q]
              have run : RunsTo (T.env (inE T B k Γ)) F (denF I args) (denH I) (denV (ofs J) v) (denH J) := by
                rw [argsUp_den] at r1
                exact ⟨n, ex, t', r1, hne, hr'⟩
              refine ⟨v, J, m, ?_, q3.2, hb, q3.1.h, q⟩
              simp only [Plain.env, hT', inE, hF, runE_some run]
            · cases q
          · cases q
        cases ex with
        | exit i => cases q4
        | normal => exact key (.inl rfl) q4
        | ret => exact key (.inr rfl) q4
      · cases e

/-- A piece of code, walked. -/
def pieceS (T : Plain) (Γ : Env) (C : CallS) (fuel : Nat) (lv : Lv) (x : IL) (hn : Hs) (t : SFr) (I : SH) : STr := execS T Γ C fuel x t I hn lv fun e t J _ => .ret e (normS lv 0 t) J
/-- What is known of an end, said of frames and heaps. -/
def onS (K : Post2) : PostS := fun e t J => K e (denF J t) (denH J)
theorem Wp.pieceS {T : Plain} {Γ : Env} {C : CallS} {lv : Lv} {x : IL} {t : SFr} {I : SH} {K : Post2} (hC : CallOk (T.env Γ) C) (fuel : Nat) (hn : Hs) (G : Good t I) (e : (Am.pieceS T Γ C fuel lv x hn t I).holds (onS K)) : Wp (T.env Γ) lv x (denF I t) (denH I) K := by
  refine (execS_holds hC fuel x t I hn lv _ G e).ends fun e s h' ⟨t', J, m, q1, q2, _, q3⟩ => ?_
  subst q1 q2
  exact ⟨denF J (normS lv 0 t'), by rw [normS_den]; exact norm_ag lv _, q3⟩

/-- A function, walked: one leaf holds its value. -/
def fnS (T : Plain) (Γ : Env) (C : CallS) (fuel : Nat) (F : FnIL) (hn : Hs) (args : SFr) (I : SH) : STr :=
  execS T Γ C fuel F.body (argsUp F args) I hn (resLv F.res) fun e t J _ => match e with
    | .exit _ => .fail
    | _ => match resS t J F.res with
      | some v => .ret .ret [v] J
      | none => .fail
def valS (Q : Value → Heap → Prop) : PostS := fun _ t J => match t with
  | [v] => Q (denV (ofs J) v) (denH J)
  | _ => False
theorem fnS_sim {P : Program} {qt : List Nat} (hm : P.follows .mixedOrders = true) {T : Plain} {Γ : Env} (hΓ : EnvOk P (T.env Γ)) (hq : QuietEnv qt (T.env Γ)) {C : CallS} (hC : CallOk (T.env Γ) C) {f : Nat} {F : FnIL} (hf : stF P qt f = some F) (fuel : Nat) (hn : Hs) {args : SFr} {I : SH}
    {Q : Value → Heap → Prop} (G : Good args I) (e : (fnS T Γ C fuel F hn args I).holds (valS Q)) : Sim P f (denF I args) (denH I) Q := by
  refine wp_sim' hm hΓ hq hf ?_
  rw [← argsUp_den]
  refine (execS_holds hC fuel F.body _ I hn _ _ (argsUp_good G) e).mono fun e s h' ⟨t, J, m, q1, q2, _, q3⟩ => ?_
  subst q1 q2
  have key : ∀ (hne : e = .normal ∨ e = .ret), (match resS t J F.res with
      | some v => STr.ret .ret [v] J
      | none => .fail).holds (valS Q) → (e = .normal ∨ e = .ret) ∧ ∃ v, resA (denF J t) (denH J) F.res = some v ∧ Q v (denH J) := by
    intro hne q
    split at q
    · rename_i v hv
      exact ⟨hne, _, resS_ok hv, q⟩
    · cases q
  cases e with
  | exit i => cases q3
  | normal => exact key (.inl rfl) q3
  | ret => exact key (.inr rfl) q3
abbrev sI (n : Int) : SV := .raw (.int .i64 n)
abbrev sB (b : Bool) : SV := .raw (.bool b)
def frS (n : Nat) (l : List (Nat × SV)) : SFr := l.foldl (fun t p => t.set p.1 p.2) (List.replicate n sund)
theorem frS_den (I : SH) (n : Nat) (l : List (Nat × SV)) : denF I (frS n l) = fr n (l.map fun p => (p.1, denV (ofs I) p.2)) := by
  have : ∀ (l : List (Nat × SV)) (t : SFr), denF I (l.foldl (fun t p => t.set p.1 p.2) t) = (l.map fun p => (p.1, denV (ofs I) p.2)).foldl (fun t p => t.set p.1 p.2) (denF I t) := by
    intro l
    induction l with
    | nil => intro t; rfl
    | cons p r ih =>
      intro t
      simp only [List.foldl_cons, List.map_cons, ih]
      congr 1
      simp only [denF, List.map_set]
  unfold frS fr
  rw [this]
  congr 1
  simp only [denF, List.map_replicate]; rfl
end Go.Am
