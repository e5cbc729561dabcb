/-
  Statements and functions, walked over values that name their blocks.
-/
import Derived.Test.YtgdojnamjkhknaaAm28
namespace Go.Am
set_option linter.all false

inductive ChS (Γ : Env) : List IOp → SFr → SH → List (SFr × SH × SV × SH) → SFr → SH → Prop
  | nil (t : SFr) (I : SH) : ChS Γ [] t I [] t I
  | cons {o : IOp} {r : List IOp} {t : SFr} {I : SH} {v : SV} {J : SH} {S : List (SFr × SH × SV × SH)} {t' : SFr} {J' : SH} : o.g = none → Good t I → OpS Γ o.k t I v J → ChS Γ r (putS t o.dst v) J S t' J' → ChS Γ (o :: r) t I ((t, I, v, J) :: S) t' J'
def hAtS (S : List (SFr × SH × SV × SH)) (f : SH) (j : Nat) : Option SH := match S, j with
  | [], 0 => some f
  | [], _ + 1 => none
  | s :: _, 0 => some s.2.1
  | _ :: r, j + 1 => hAtS r f j
theorem ChS.run {Γ : Env} {os : List IOp} {t : SFr} {I : SH} {S : List (SFr × SH × SV × SH)} {t' : SFr} {J : SH} (c : ChS Γ os t I S t' J) : runR Γ os (denF I t) (denH I) = some (denF J t', denH J) := by
  induction c with
  | nil => rfl
  | cons hg G ho _ ih =>
    rw [(ho.put G _).2] at ih
    simp only [runR, hg, want, if_true, ho.op, ih]
theorem ChS.good {Γ : Env} {os : List IOp} {t : SFr} {I : SH} {S : List (SFr × SH × SV × SH)} {t' : SFr} {J : SH} (c : ChS Γ os t I S t' J) (G : Good t I) : Good t' J := by
  induction c with
  | nil => exact G
  | cons hg G ho _ ih => exact ih (ho.put G _).1
theorem ChS.grow {Γ : Env} {os : List IOp} {t : SFr} {I : SH} {S : List (SFr × SH × SV × SH)} {t' : SFr} {J : SH} (c : ChS Γ os t I S t' J) : Grow I J := by
  induction c with
  | nil => exact .refl _
  | cons hg G ho _ ih => exact ho.grow.trans ih
theorem ChS.heap {Γ : Env} {os : List IOp} {t : SFr} {I : SH} {S : List (SFr × SH × SV × SH)} {t' : SFr} {J : SH} (c : ChS Γ os t I S t' J) : ∀ (j : Nat) (Ij : SH), hAtS S J j = some Ij → (∃ tj, runR Γ (os.take j) (denF I t) (denH I) = some (tj, denH Ij)) ∧ Grow I Ij := by
  induction c with
  | nil t I =>
    intro j Ij e
    cases j with
    | zero => simp only [hAtS, Option.some.injEq] at e; subst e; exact ⟨⟨_, rfl⟩, .refl _⟩
    | succ j => simp [hAtS] at e
  | cons hg G ho _ ih =>
    intro j Ij e
    cases j with
    | zero => simp only [hAtS, Option.some.injEq] at e; subst e; exact ⟨⟨_, rfl⟩, .refl _⟩
    | succ j =>
      obtain ⟨⟨tj, e1⟩, g⟩ := ih j Ij e
      rw [(ho.put G _).2] at e1
      exact ⟨⟨tj, by simp only [List.take_succ_cons, runR, hg, want, if_true, ho.op, e1]⟩, ho.grow.trans g⟩
theorem ChS.near {Γ : Env} {os : List IOp} {t : SFr} {I : SH} {S : List (SFr × SH × SV × SH)} {t' : SFr} {J : SH} (c : ChS Γ os t I S t' J) : ∀ (i j : Nat) (Ii Ij : SH), hAtS S J i = some Ii → hAtS S J j = some Ij → i ≤ j → Grow Ii Ij := by
  induction c with
  | nil t I =>
    intro i j Ii Ij e1 e2 _
    cases i with
    | succ i => simp [hAtS] at e1
    | zero => cases j with
      | succ j => simp [hAtS] at e2
      | zero => rw [e1] at e2; cases e2; exact .refl _
  | cons hg G ho c ih =>
    intro i j Ii Ij e1 e2 hij
    cases i with
    | zero =>
      simp only [hAtS, Option.some.injEq] at e1; subst e1
      exact ((ChS.cons hg G ho c).heap j Ij e2).2
    | succ i => cases j with
      | zero => omega
      | succ j => exact ih i j Ii Ij e1 e2 (by omega)
theorem ChS.at_ {Γ : Env} {os : List IOp} {t : SFr} {I : SH} {S : List (SFr × SH × SV × SH)} {t' : SFr} {J : SH} (c : ChS Γ os t I S t' J) : ∀ (i : Nat) (x : IOp) (ti : SFr) (Ii : SH) (vi : SV) (Ji : SH), os[i]? = some x → S[i]? = some (ti, Ii, vi, Ji) →
    runR Γ (os.take i) (denF I t) (denH I) = some (denF Ii ti, denH Ii) ∧ x.g = none ∧ OpS Γ x.k ti Ii vi Ji ∧ Good ti Ii ∧ hAtS S J i = some Ii := by
  induction c with
  | nil => intro i x ti Ii vi Ji e; simp at e
  | cons hg G ho _ ih =>
    intro i x ti Ii vi Ji e1 e2
    cases i with
    | zero => simp at e1 e2; obtain ⟨rfl, rfl, rfl, rfl⟩ := e2; subst e1; exact ⟨rfl, hg, ho, G, rfl⟩
    | succ i =>
      obtain ⟨a, b, d, f, g⟩ := ih i x ti Ii vi Ji (by simpa using e1) (by simpa using e2)
      rw [(ho.put G _).2] at a
      exact ⟨by simp only [List.take_succ_cons, runR, hg, want, if_true, ho.op, a], b, d, f, g⟩

def chainS (T : Plain) (Γ : Env) : List IOp → List (Option (SV × Dl)) → SFr → SH → (List (SFr × SH × SV × SH) → SFr → SH → STr) → STr
  | [], _, t, I, K => K [] t I
  | _ :: _, [], _, _, _ => .fail
  | o :: r, v :: vs, t, I, K => match o.g with
    | some _ => .fail
    | none => match v with
      | some (v, D) => match D.go I with
        | some (J, ps) => if bndV J.length v then claims ps (.claim (opC (T.env Γ) o.k (denF I t) (denH I) = some (denV (ofs J) v, denH J)) (chainS T Γ r vs (putS t o.dst v) J fun S t' J' => K ((t, I, v, J) :: S) t' J')) else .fail
        | none => .fail
      | none => match opQS T o.k t I with
        | some (q, v, J) => .req q (chainS T Γ r vs (putS t o.dst v) J fun S t' J' => K ((t, I, v, J) :: S) t' J')
        | none => .fail
theorem chainS_holds {T : Plain} {Γ : Env} {Q : PostS} : ∀ (os : List IOp) (vs : List (Option (SV × Dl))) (t : SFr) (I : SH) (K : List (SFr × SH × SV × SH) → SFr → SH → STr), Good t I → (chainS T Γ os vs t I K).holds Q →
    ∃ S t' J, ChS (T.env Γ) os t I S t' J ∧ (K S t' J).holds Q
  | [], _, t, I, K, _, e => ⟨[], t, I, .nil t I, e⟩
  | o :: r, [], t, I, K, _, e => by cases e
  | o :: r, v :: vs, t, I, K, G, e => by
    simp only [chainS] at e
    split at e
    · cases e
    · rename_i hg
      split at e
      · rename_i v D
        split at e
        · rename_i J ps hD
          split at e
          · rename_i hb
            obtain ⟨c1, c2, c3⟩ := claims_holds _ e
            obtain ⟨g1, g2⟩ := Dl.go_ok hD c1
            have o1 : OpS (T.env Γ) o.k t I v J := ⟨by rw [← opC_eq]; exact c2, g1, hb, g2⟩
            obtain ⟨S, t', J', c, q⟩ := chainS_holds r vs _ _ _ (o1.put G _).1 c3
            exact ⟨_, t', J', .cons hg G o1 c, q⟩
          · cases e
        · cases e
      · split at e
        · rename_i q v J ho
          obtain ⟨e1, e2⟩ := e
          have o1 := opQS_ok (Γ := Γ) G ho e1
          obtain ⟨S, t', J', c, q⟩ := chainS_holds r vs _ _ _ (o1.put G _).1 e2
          exact ⟨_, t', J', .cons hg G o1 c, q⟩
        · cases e
def pairS (T : Plain) (Γ : Env) (os : List IOp) (S : List (SFr × SH × SV × SH)) (f : SH) : List (Nat × Nat) → STr → STr
  | [], t => t
  | (i, j) :: r, t => match os[i]?, S[i]?, hAtS S f (if i < j then j + 1 else j) with
    | some x, some (ti, Ii, vi, Ji), some Ij => if (opnds x.k).all fun o => bndV Ij.length (evS ti o) then
        match opQS T x.k (cutS Ij.length ti) Ij with
        | some (q, v', _) => .req (q && eqQ (min Ii.length Ij.length) vi v') (pairS T Γ os S f r t)
        | none => .claim ((∃ h2, opC (T.env Γ) x.k (denF Ii ti) (denH Ij) = some (denV (ofs Ji) vi, h2)) ∧ eqV (denV (ofs Ji) vi) (denV (ofs Ji) vi) = true) (pairS T Γ os S f r t)
      else .fail
    | _, _, _ => .fail
theorem pairS_holds {T : Plain} {Γ : Env} {os : List IOp} {t : SFr} {I : SH} {S : List (SFr × SH × SV × SH)} {t' : SFr} {J : SH} (c : ChS (T.env Γ) os t I S t' J) (G : Good t I) {Q : PostS} {k : STr} : ∀ (X : List (Nat × Nat)), (pairS T Γ os S J X k).holds Q → crossB (T.env Γ) os (denF I t) (denH I) X = true ∧ k.holds Q
  | [], e => ⟨rfl, e⟩
  | (i, j) :: r, e => by
    simp only [pairS] at e
    split at e
    · rename_i x ti Ii vi Ji Ij hx hS hH
      obtain ⟨a1, a2, a3, a4, a5⟩ := c.at_ i x ti Ii vi Ji hx hS
      obtain ⟨⟨tj, b1⟩, _⟩ := c.heap _ _ hH
      have N : Near Ii Ij := by
        by_cases hij : i < j
        · rw [if_pos hij] at hH
          exact (c.near i (j + 1) Ii Ij a5 hH (by omega)).near
        · rw [if_neg hij] at hH
          exact (c.near j i Ij Ii hH a5 (by omega)).near.symm
      have hIj : Ij.all (It.bnd Ij.length) = true := by
        -- each heap of the walk is whole
        have key : ∀ {os : List IOp} {t : SFr} {I : SH} {S : List (SFr × SH × SV × SH)} {t' : SFr} {J : SH}, ChS (T.env Γ) os t I S t' J → Good t I → ∀ (j : Nat) (Ij : SH), hAtS S J j = some Ij → Ij.all (It.bnd Ij.length) = true := by
          intro os t I S t' J c
          induction c with
          | nil t I =>
            intro G j Ij e
            cases j with
            | zero => simp only [hAtS, Option.some.injEq] at e; subst e; exact G.h
            | succ j => simp [hAtS] at e
          | cons hg G0 ho _ ih =>
            intro G j Ij e
            cases j with
            | zero => simp only [hAtS, Option.some.injEq] at e; subst e; exact G.h
            | succ j => exact ih (ho.put G0 _).1 j Ij e
        exact key c G _ _ hH
      split at e
      · rename_i hb
        split at e
        · rename_i q v' J2 ho
          obtain ⟨e1, e3⟩ := e
          simp only [Bool.and_eq_true] at e1
          obtain ⟨q1, q2⟩ := pairS_holds c G r e3
          refine ⟨?_, q2⟩
          have p2 := opQS_ok (Γ := Γ) (cutS_good hIj) ho e1.1
          simp only [crossB, hx, a1, b1, a2, want, if_true, a3.op, near_op N a4.t hb, p2.op, q1, Bool.and_true]
          refine eqQ_ok (n := min Ii.length Ij.length) (fun k hk => ?_) e1.2
          rw [a3.grow.ofs k (by omega), p2.grow.ofs k (by omega)]
          exact N k (by omega) (by omega)
        · obtain ⟨⟨⟨h2, e1⟩, e2⟩, e3⟩ := e
          obtain ⟨q1, q2⟩ := pairS_holds c G r e3
          refine ⟨?_, q2⟩
          rw [opC_eq] at e1
          simp only [crossB, hx, a1, b1, a2, want, if_true, a3.op, e1, e2, q1, Bool.and_self]
      · cases e
    · cases e

/-! ### Statements -/
def normS (lv : Lv) : Nat → SFr → SFr
  | _, [] => []
  | i, v :: r => (if lv i then v else sund) :: normS lv (i + 1) r
theorem normS_den (lv : Lv) (I : SH) : ∀ (i : Nat) (t : SFr), denF I (normS lv i t) = norm lv i (denF I t)
  | _, [] => rfl
  | i, v :: r => by
    have := normS_den lv I (i + 1) r
    simp only [denF, normS, norm, List.map_cons] at this ⊢
    rw [this]
    split <;> rfl
theorem normS_bnd (lv : Lv) (n : Nat) : ∀ (i : Nat) (t : SFr), t.all (bndV n) = true → (normS lv i t).all (bndV n) = true
  | _, [], _ => rfl
  | i, v :: r, h => by
    simp only [List.all_cons, Bool.and_eq_true] at h
    simp only [normS, List.all_cons, Bool.and_eq_true]
    refine ⟨?_, normS_bnd lv n (i + 1) r h.2⟩
    split
    · exact h.1
    · rfl

def execS (T : Plain) (Γ : Env) (C : CallS) : Nat → IL → SFr → SH → Hs → Lv → (Ex → SFr → SH → Hs → STr) → STr
  | 0, _, _, _, _, _, _ => .fail
  | _ + 1, .skip, t, I, hn, _, K => K .normal t I hn
  | _ + 1, .reg ops, t, I, hn, lv, K => runUS T Γ C (2 * ops.length + 10) ops t I hn lv (K .normal)
  | _ + 1, .dreg ops X, t, I, hn, lv, K => match hn with
    | .crs vals n => chainS T Γ ops vals t I fun S t' J => pairS T Γ ops S J X (K .normal t' J n)
    | hn => .req (crossQS T ops t I X) (runUS T Γ C (2 * ops.length + 10) ops t I hn lv (K .normal))
  | n + 1, .seq x y, t, I, hn, lv, K => execS T Γ C n x t I hn (fun i => exL i y || lv i) fun e t' J hn' => match e with
    | .normal => execS T Γ C n y t' J hn' lv K
    | e => K e t' J hn'
  | n + 1, .ite c x y, t, I, hn, lv, K => match evS t c with
    | .raw (.bool b) => brS b hn (fun m => execS T Γ C n x t I m lv K) (fun m => execS T Γ C n y t I m lv K)
    | _ => .fail
  | n + 1, .block id x, t, I, hn, lv, K =>
    let walk (_ : Unit) : STr := execS T Γ C n x t I hn lv fun e t' J hn' => match e with
      | .exit i => if i = id then K .normal t' J hn' else K (.exit i) t' J hn'
      | e => K e t' J hn'
    match hn with
    | .lp j l t1 D m => if j = id then if (List.range t.length).all (fun i => !(lv i) || inL l i) then match D.go I with
        | some (J, ps) => if t1.all (bndV J.length) then claims ps (.claim (Wp (T.env Γ) (inL l) (.block id x) (denF I (normS (fun i => exL i x || inL l i) 0 t)) (denH I) fun e s h' => e = .normal ∧ s = denF J t1 ∧ h' = denH J) (K .normal t1 J m)) else .fail
        | none => .fail else .fail else walk ()
    | .lp2 j l b t1 D1 t2 D2 m1 m2 => if j = id then if (List.range t.length).all (fun i => !(lv i) || inL l i) then match D1.go I, D2.go I with
        | some (J1, ps1), some (J2, ps2) => if t1.all (bndV J1.length) && t2.all (bndV J2.length) then
          .claim (Wp (T.env Γ) (inL l) (.block id x) (denF I (normS (fun i => exL i x || inL l i) 0 t)) (denH I) fun e s h' => if b then e = .normal ∧ s = denF J1 t1 ∧ h' = denH J1 else e = .ret ∧ s = denF J2 t2 ∧ h' = denH J2)
            (.br b (claims ps1 (K .normal t1 J1 m1)) (claims ps2 (K .ret t2 J2 m2))) else .fail
        | _, _ => .fail else .fail else walk ()
    | _ => walk ()
  | n + 1, .loop x, t, I, hn, lv, K => execS T Γ C n x t I hn (fun i => exL i x || lv i) fun e t' J hn' => match e with
    | .normal => execS T Γ C n (.loop x) t' J hn' lv K
    | e => K e t' J hn'
  | _ + 1, .exit id, t, I, hn, _, K => K (.exit id) t I hn
  | _ + 1, .ret, t, I, hn, _, K => K .ret t I hn

/-- A state that is walked on from. -/
def EndS (I : SH) (Q : PostS) (K : Ex → SFr → SH → Hs → STr) : Post2 := fun e s h' => ∃ t J m, s = denF J t ∧ h' = denH J ∧ (Good t J ∧ Grow I J) ∧ (K e t J m).holds Q

theorem execS_holds {T : Plain} {Γ : Env} {C : CallS} (hC : CallOk (T.env Γ) C) {Q : PostS} : ∀ (n : Nat) (x : IL) (t : SFr) (I : SH) (hn : Hs) (lv : Lv) (K : Ex → SFr → SH → Hs → STr), Good t I → (execS T Γ C n x t I hn lv K).holds Q →
    Wp (T.env Γ) lv x (denF I t) (denH I) (EndS I Q K)
  | 0, x, t, I, hn, lv, K, _, e => by cases e
  | n + 1, x, t, I, hn, lv, K, G, e => by
    cases x with
    | skip => exact ⟨1, _, _, _, _, rfl, .refl _, t, I, _, rfl, rfl, ⟨G, .refl I⟩, e⟩
    | exit id => exact ⟨1, _, _, _, _, rfl, .refl _, t, I, _, rfl, rfl, ⟨G, .refl I⟩, e⟩
    | ret => exact ⟨1, _, _, _, _, rfl, .refl _, t, I, _, rfl, rfl, ⟨G, .refl I⟩, e⟩
    | reg ops =>
      obtain ⟨t1, s, J, m, h1, a, G1, h2⟩ := runUS_holds hC _ ops t I hn lv G e
      exact ⟨1, _, _, _, _, by simp only [execF, h1], a, s, J, m, rfl, rfl, G1, h2⟩
    | dreg ops X =>
      simp only [execS] at e
      split at e
      · obtain ⟨S, t', J, c, e⟩ := chainS_holds _ _ _ _ _ G e
        obtain ⟨q1, q2⟩ := pairS_holds c G X e
        exact ⟨1, _, _, _, _, by simp only [execF, q1, if_true, c.run], .refl _, t', J, _, rfl, rfl, ⟨c.good G, c.grow⟩, q2⟩
      · obtain ⟨h0, e⟩ := e
        obtain ⟨t1, s, J, m, h1, a, G1, h2⟩ := runUS_holds hC _ ops t I _ lv G e
        exact ⟨1, _, _, _, _, by simp only [execF, crossQS_ok (Γ := Γ) G X h0, if_true, h1], a, s, J, m, rfl, rfl, G1, h2⟩
    | seq x y =>
      refine Wp.seq ((execS_holds hC n x t I hn _ _ G e).mono fun e1 s1 h1 ⟨t1, J1, m1, q1, q2, G1, q3⟩ => ?_)
      cases e1 with
      | normal => subst q1; subst q2; exact (execS_holds hC n y t1 J1 m1 lv K G1.1 q3).mono fun e s h' ⟨t, J, m, r1, r2, r3, r4⟩ => ⟨t, J, m, r1, r2, ⟨r3.1, G1.2.trans r3.2⟩, r4⟩
      | ret => exact ⟨t1, J1, m1, q1, q2, G1, q3⟩
      | exit id => exact ⟨t1, J1, m1, q1, q2, G1, q3⟩
    | ite c x y =>
      simp only [execS] at e
      split at e
      · rename_i b hb
        have hb' : ev (denF I t) c = .bool b := by rw [ev_denF, hb]; rfl
        rcases brS_holds e with ⟨hq, m, hk⟩ | ⟨hq, m, hk⟩
        · subst hq
          exact Wp.iteT hb' (execS_holds hC n x t I m lv K G hk)
        · subst hq
          exact Wp.iteF hb' (execS_holds hC n y t I m lv K G hk)
      · cases e
    | block id x =>
      have walk : (execS T Γ C n x t I hn lv fun e t' J hn' => match e with
          | .exit i => if i = id then K .normal t' J hn' else K (.exit i) t' J hn'
          | e => K e t' J hn').holds Q → Wp (T.env Γ) lv (.block id x) (denF I t) (denH I) (EndS I Q K) := by
        intro e
        refine Wp.block ((execS_holds hC n x t I hn lv _ G e).mono fun e1 s1 h1 ⟨t1, J1, m1, q1, q2, G1, q3⟩ => ?_)
        cases e1 with
        | normal => exact ⟨t1, J1, m1, q1, q2, G1, q3⟩
        | ret => exact ⟨t1, J1, m1, q1, q2, G1, q3⟩
        | exit i =>
          dsimp only at q3
          simp only [endK]
          split at q3
          · rename_i hi; rw [if_pos hi]; exact ⟨t1, J1, m1, q1, q2, G1, q3⟩
          · rename_i hi; rw [if_neg hi]; exact ⟨t1, J1, m1, q1, q2, G1, q3⟩
      have back : ∀ {K' : Post2} (l : List Nat), (List.range t.length).all (fun i => !(lv i) || inL l i) = true → Wp (T.env Γ) (inL l) (.block id x) (denF I (normS (fun i => exL i x || inL l i) 0 t)) (denH I) K' → Wp (T.env Γ) lv (.block id x) (denF I t) (denH I) K' := fun l hl w => by
        rw [normS_den] at w
        refine Wp.lessN (Wp.ag (norm_ag (fun i => exL i x || inL l i) (denF I t)) w) fun i hi q => ?_
        rw [List.all_eq_true] at hl
        have := hl i (List.mem_range.2 (by simpa [denF] using hi))
        rw [q] at this
        simpa using this
      simp only [execS] at e
      split at e
      · split at e
        · split at e
          · rename_i hl
            split at e
            · rename_i J ps hD
              split at e
              · rename_i hb
                obtain ⟨c1, c2, c3⟩ := claims_holds _ e
                obtain ⟨g1, g2⟩ := Dl.go_ok hD c1
                exact (back _ hl c2).mono fun e1 s1 h1 ⟨q1, q2, q3⟩ => by subst q1; exact ⟨_, J, _, q2, q3, ⟨⟨hb, g2⟩, g1⟩, c3⟩
              · cases e
            · cases e
          · cases e
        · exact walk e
      · split at e
        · split at e
          · rename_i hl
            split at e
            · rename_i J1 ps1 J2 ps2 hD1 hD2
              split at e
              · rename_i hb
                simp only [Bool.and_eq_true] at hb
                obtain ⟨e1, e2, e3⟩ := e
                refine (back _ hl e1).mono fun e1 s1 h1 q => ?_
                split at q
                · rename_i hbb
                  obtain ⟨q1, q2, q3⟩ := q
                  obtain ⟨c1, c2⟩ := claims_holds _ (e2 hbb)
                  subst q1; exact ⟨_, J1, _, q2, q3, ⟨⟨hb.1, (Dl.go_ok hD1 c1).2⟩, (Dl.go_ok hD1 c1).1⟩, c2⟩
                · rename_i hbb
                  obtain ⟨q1, q2, q3⟩ := q
                  obtain ⟨c1, c2⟩ := claims_holds _ (e3 (by simpa using hbb))
                  subst q1; exact ⟨_, J2, _, q2, q3, ⟨⟨hb.2, (Dl.go_ok hD2 c1).2⟩, (Dl.go_ok hD2 c1).1⟩, c2⟩
              · cases e
            · cases e
          · cases e
        · exact walk e
      · exact walk e
    | loop x =>
      refine Wp.loop1 ((execS_holds hC n x t I hn _ _ G e).mono fun e1 s1 h1 ⟨t1, J1, m1, q1, q2, G1, q3⟩ => ?_)
      cases e1 with
      | normal => subst q1; subst q2; exact (execS_holds hC n (.loop x) t1 J1 m1 lv K G1.1 q3).mono fun e s h' ⟨t, J, m, r1, r2, r3, r4⟩ => ⟨t, J, m, r1, r2, ⟨r3.1, G1.2.trans r3.2⟩, r4⟩
      | ret => exact ⟨t1, J1, m1, q1, q2, G1, q3⟩
      | exit i => exact ⟨t1, J1, m1, q1, q2, G1, q3⟩

/-! ### Functions -/
def resS1 (t : SFr) (I : SH) : Res → Option SV
  | .tmp j => some (t.getD j sund)
  | .cell j n => pureS (.load (.tmp j) n) t I
def resSs (t : SFr) (I : SH) : List Res → Option (List SV)
  | [] => some []
  | r :: l => match resS1 t I r, resSs t I l with
    | some v, some vs => some (v :: vs)
    | _, _ => none
def noTupV : SV → Bool := noTupS
def resS (t : SFr) (I : SH) (rs : List Res) : Option SV := match resSs t I rs with
  | some [v] => some v
  | some vs => if vs.all noTupS then (if vs.all isRaw then some (.raw (.tuple ⟨vs.map rawOf⟩)) else some (.tup vs)) else none
  | none => none
theorem resS1_ok {t : SFr} {I : SH} {r : Res} {v : SV} (e : resS1 t I r = some v) : resA1 (denF I t) (denH I) r = some (denV (ofs I) v) := by
  cases r with
  | tmp j =>
    cases e
    simp only [resA1, ← getD_den]
  | cell j n =>
    have := pureS_ok (Γ := noEnv) e
    rw [opA_pure rfl] at this
    split at this
    · rename_i u hu
      simp only [Option.some.injEq, Prod.mk.injEq, and_true] at this
      rw [← this]
      simpa only [resA1] using hu
    · cases this
theorem resSs_ok {t : SFr} {I : SH} : ∀ (rs : List Res) (vs : List SV), resSs t I rs = some vs → resAs (denF I t) (denH I) rs = some (vs.map (denV (ofs I)))
  | [], vs, e => by cases e; rfl
  | r :: l, vs, e => by
    simp only [resSs] at e
    split at e
    · rename_i v vl hv hl
      cases e
      simp only [resAs, resS1_ok hv, resSs_ok l vl hl, List.map_cons]
    · cases e
theorem resS_ok {t : SFr} {I : SH} {rs : List Res} {v : SV} (e : resS t I rs = some v) : resA (denF I t) (denH I) rs = some (denV (ofs I) v) := by
  unfold resS at e
  split at e
  · rename_i u hu
    cases e
    simp only [resA, resSs_ok rs _ hu, List.map_cons, List.map_nil]
  · rename_i vs hn1 hu
    split at e
    · rename_i hall
      have h1 := resSs_ok rs _ hu
      have hden : (vs.map (denV (ofs I))).all noTup = true := by
        rw [List.all_map]
        refine List.all_eq_true.2 fun x hx => ?_
        exact (noTup_den (List.all_eq_true.1 hall x hx)).1
      have hA : vs.map (denA (ofs I)) = vs.map (denV (ofs I)) := List.map_congr_left fun x hx => by
        have := List.all_eq_true.1 hall x hx
        cases x <;> first | rfl | cases this
      have hne : ∀ (a : Value), vs.map (denV (ofs I)) ≠ [a] := fun a q => by
        match vs, q with
        | [x], _ => exact hn1 x rfl
      have : resA (denF I t) (denH I) rs = some (.tuple ⟨vs.map (denV (ofs I))⟩) := by
        unfold resA
        rw [h1]
        split
        · rename_i a q; exact absurd (Option.some.inj q) (hne a)
        · rename_i l _ q
          cases q
          rw [if_pos hden]
        · rename_i q; cases q
      rw [this]
      split at e
      · rename_i hr
        cases e
        have : vs.map rawOf = vs.map (denV (ofs I)) := map_congr_all (p := isRaw) (fun v hv => by cases v <;> first | rfl | cases hv) hr
        simp only [denV, denA, den0, this]
      · cases e
        simp only [denV, hA]
    · cases e
  · cases e

end Go.Am
