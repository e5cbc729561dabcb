/-
  A region that draws its order.
-/
import Derived.Test.YteeejcnnhfbgpaaAm16
namespace Go.Am
set_option linter.all false

variable {P : Program} {ι : Map} {h : Heap} {w w' : World} {t : Fr} {a : Act} {qt : List Nat}
variable {Γ : Env} {ops : Array Oper} {os : List IOp} {B : List Nat} {fr : Nat → Fr} {hp : Nat → Heap} {vl : Nat → Value}

def sel (listed : Array Bool) : Nat → Bool := fun i => listed.getD i false

theorem sel_set {listed : Array Bool} {i : Nat} (hi : i < listed.size) : sel (listed.setIfInBounds i true) = fun j => sel listed j || j == i := by
  funext j
  unfold sel
  by_cases hj : i = j
  · subst hj
    simp [hi]
  · rw [getD_set_ne false hj]
    have : (j == i) = false := by simp; omega
    simp [this]

theorem edge_mem {o : Oper} {d : Nat} : d ∈ edgesOf o ↔ ∃ e ∈ o.after, Region.binds .any e = true ∧ e.on = d := by
  unfold edgesOf
  simp [and_assoc]

theorem any_sim (hΓ : EnvOk P Γ) (R : Reg P qt Γ ops os B fr hp vl) {Q : Exit → Act → World → Prop} {ι0 : Map} {h0 : Heap} {w0 : World}
    (K : ∀ ι' a' w', Rel ι' (fr os.length) (hp os.length) a' w' → Ext ι0 h0 w0 ι' (hp os.length) w' → Q .normal a' w') :
    ∀ (fuel : Nat) (listed : Array Bool) (a : Act) (w : World) (ι : Map) (q : Nat), listed.size = os.length → (List.range os.length).countP (fun i => !sel listed i) = fuel → Up P qt ops os (sel listed) q →
    Rel ι (lastV os vl (sel listed) (fr 0) os.length) (hp q) a w → Ext ι0 h0 w0 ι (hp q) w → wpAny P .any ops Q fuel listed a w := by
  have hsz : ops.size = os.length := by rw [← R.len]; simp
  have getop : ∀ i, ops[i]? = ops.toList[i]? := fun i => Array.getElem?_toList.symm
  intro fuel
  induction fuel with
  | zero =>
    intro listed a w ι q hl hc U Re E
    have all : ∀ i, i < os.length → sel listed i = true := by
      intro i hi
      cases hs : sel listed i with
      | true => rfl
      | false =>
        have : 0 < (List.range os.length).countP (fun i => !sel listed i) := List.countP_pos_iff.2 ⟨i, List.mem_range.2 hi, by simp [hs]⟩
        omega
    refine ⟨?_, ?_⟩
    · rw [List.eq_nil_iff_forall_not_mem]
      intro i hi
      obtain ⟨h1, o, ho, _⟩ := mem_ready.1 hi
      have hil : i < os.length := by rw [← hsz]; exact (Array.getElem?_eq_some_iff.1 ho).1
      have := all i hil
      unfold sel at this
      have h2 : listed.getD i false = listed.getD i true := by
        have : i < listed.size := by omega
        simp [Array.getD, this]
      rw [h2, h1] at this
      cases this
    · refine K ι a w ⟨?_, Re.defers, ?_⟩ ?_
      · have h1 : lastV os vl (sel listed) (fr 0) os.length = fr os.length := by
          rw [← walk_fr R.walk os.length (Nat.le_refl _)]
          have : ∀ m, m ≤ os.length → lastV os vl (sel listed) (fr 0) m = lastV os vl (fun _ => true) (fr 0) m := by
            intro m
            induction m with
            | zero => intro _; rfl
            | succ m ih => intro hm; simp only [lastV, ih (by omega), all m (by omega), if_true]
          exact this _ (Nat.le_refl _)
        rw [← h1]
        exact Re.fr
      all_goals
        have h2 : hp q = hp os.length := by
          have : ∀ k, q + k ≤ os.length → hp q = hp (q + k) := by
            intro k
            induction k with
            | zero => intro _; rfl
            | succ k ih =>
              intro hk
              rw [ih (by omega)]
              have hy : os[q + k]? = some os[q + k] := List.getElem?_eq_getElem (by omega)
              have hno : isEff qt os[q + k].k = false := by
                cases hey : isEff qt os[q + k].k with
                | false => rfl
                | true => have := (U.eff _ _ hy hey).1 (all _ (by omega)); omega
              exact (R.same hy hno).symm
          have h4 := U.le
          have h3 := this (os.length - q) (by omega)
          rwa [show q + (os.length - q) = os.length by omega] at h3
        rw [← h2]
      · exact Re.hr
      · exact E
  | succ fuel ih =>
    intro listed a w ι q hl hc U Re E
    refine ⟨fun hr => ?_, fun i hi => ?_⟩
    · -- something is ready
      exfalso
      have hex : ∃ i, i < os.length ∧ sel listed i = false := by
        have : 0 < (List.range os.length).countP (fun i => !sel listed i) := by omega
        obtain ⟨i, hi, hs⟩ := List.countP_pos_iff.1 this
        exact ⟨i, List.mem_range.1 hi, by simpa using hs⟩
      obtain ⟨i0, hi0, hs0⟩ := hex
      obtain ⟨m, ⟨hm1, hm2⟩, hm3⟩ := least (p := fun i => i < os.length ∧ sel listed i = false) i0 ⟨hi0, hs0⟩
      have hmo : m < ops.toList.length := by rw [R.len]; exact hm1
      have hom : ops.toList[m]? = some ops.toList[m] := List.getElem?_eq_getElem hmo
      obtain ⟨C, hC, _, hspec⟩ := befs_spec ops.toList [] B R.bf
      have : m ∈ Region.ready .any ops listed := by
        rw [mem_ready]
        refine ⟨?_, _, (getop m).trans hom, fun e he hb => ?_⟩
        · have hms : m < listed.size := by omega
          unfold sel at hm2
          simp [Array.getD, hms] at hm2 ⊢
          exact hm2
        · have hd := (hspec m _ hom).1 e.on (edge_mem.2 ⟨e, he, hb, rfl⟩)
          simp at hd
          have hdl : e.on < os.length := by omega
          cases hs : sel listed e.on with
          | true => exact hs
          | false => have := hm3 e.on ⟨hdl, hs⟩; omega
      rw [hr] at this
      cases this
    · obtain ⟨h1, o, ho, hed⟩ := mem_ready.1 hi
      have hol : ops.toList[i]? = some o := (getop i).symm.trans ho
      have hil : i < os.length := by rw [← R.len]; exact (List.getElem?_eq_some_iff.1 hol).1
      have hils : i < listed.size := by omega
      have hnot : sel listed i = false := by
        unfold sel
        simp [Array.getD, hils] at h1 ⊢
        exact h1
      have N : Next ops (sel listed) i o := ⟨hol, hnot, fun d hd => by obtain ⟨e, he, hb, rfl⟩ := edge_mem.1 hd; exact hed e he hb⟩
      obtain ⟨x, hx, hst⟩ := (stOps_get _ _ R.st).2 i o hol
      -- the operation, stripped
      have hxo : x.dst = o.dst ∧ x.k = stK P o.op ∧ stG ops o.guard = some x.g := by
        unfold stOp at hst
        split at hst
        · rename_i g hg; cases hst; exact ⟨rfl, rfl, hg⟩
        · cases hst
      obtain ⟨hdst, hk, hg⟩ := hxo
      have hfr := ev_of (x := x) fun d hd => R.frame U N hx hd
      have hwant : Region.wanted o (yielded ops a.tmps) = want (fr i) x.g := by rw [want_sim Re.fr hg, hfr.2]
      -- behind it
      have hsel := sel_set (listed := listed) (i := i) hils
      have hframe : lastV os vl (sel (listed.setIfInBounds i true)) (fr 0) os.length = put (lastV os vl (sel listed) (fr 0) os.length) o.dst (vl i) := by
        rw [hsel, ← hdst]
        refine last_add hnot hx os.length hil fun j hj1 hj2 hS d hd => ?_
        intro hdj
        have hy : os[j]? = some os[j] := List.getElem?_eq_getElem hj2
        rw [hy] at hdj
        simp only [Option.bind_some] at hdj
        have hp0 := pair_of R.chk hx hy hj1
        unfold pairOk at hp0
        have hcl : clash x os[j] = true := by unfold clash; rw [hd]; simp [hdj]
        simp only [hcl, Bool.not_true, Bool.false_and, Bool.or_false] at hp0
        have := R.later U N hy hp0
        rw [this] at hS
        cases hS
      have hcount : (List.range os.length).countP (fun j => !sel (listed.setIfInBounds i true) j) = fuel := by
        rw [hsel]
        show (List.range os.length).countP (fun j => !(sel listed j || j == i)) = fuel
        have : ∀ (l : List Nat), l.Nodup → i ∈ l → l.countP (fun j => !sel listed j) = l.countP (fun j => !(sel listed j || j == i)) + 1 := by
          intro l
          induction l with
          | nil => intro _ hm; cases hm
          | cons y l ihl =>
            intro hnd hm
            rw [List.nodup_cons] at hnd
            by_cases hyi : y = i
            · subst hyi
              have hsame : l.countP (fun j => !(sel listed j || j == y)) = l.countP (fun j => !sel listed j) := by
                refine List.countP_congr fun j hj => ?_
                have : (j == y) = false := by simp; intro q; subst q; exact hnd.1 hj
                rw [this, Bool.or_false]
              simp only [List.countP_cons, hsame, hnot, BEq.rfl, Bool.or_true, Bool.not_true, Bool.not_false, if_true, Bool.false_eq_true, if_false, Nat.add_zero]
            · have hml : i ∈ l := by
                rcases List.mem_cons.1 hm with q | q
                · exact absurd q.symm hyi
                · exact q
              have hb : (y == i) = false := by simp [hyi]
              simp only [List.countP_cons, hb, Bool.or_false, ihl hnd.2 hml]
              omega
        have := this (List.range os.length) List.nodup_range (List.mem_range.2 hil)
        omega
      have upTo : ∀ q', (∀ e y, os[e]? = some y → isEff qt y.k = true → ((sel listed e || e == i) = true ↔ e < q')) → q' ≤ os.length → Up P qt ops os (sel (listed.setIfInBounds i true)) q' := by
        intro q' hq1 hq2
        refine ⟨fun j oj hoj hS d hd => ?_, fun e y hy hey => by rw [hsel]; exact hq1 e y hy hey, hq2⟩
        rw [hsel] at hS ⊢
        simp only [Bool.or_eq_true] at hS ⊢
        rcases hS with hS | hS
        · exact .inl (U.closed j oj hoj hS d hd)
        · have : j = i := by simpa using hS
          subst this
          rw [hol] at hoj
          cases hoj
          exact .inl (N.edges d hd)
      have go : ∀ (q' : Nat) (v' : Value) (w1 : World) (ι1 : Map), (∀ e y, os[e]? = some y → isEff qt y.k = true → ((sel listed e || e == i) = true ↔ e < q')) → q' ≤ os.length →
          VR ι1 (vl i) v' → HR ι1 (hp q') w1 → Ext ι (hp q) w ι1 (hp q') w1 → wpAny P .any ops Q fuel (listed.setIfInBounds i true) (a.put o.dst v') w1 := by
        intro q' v' w1 ι1 g1 g2 hv H1 E1
        refine ih _ _ w1 ι1 q' (by simp [hl]) hcount (upTo q' g1 g2) ⟨?_, by rw [put_defers]; exact Re.defers, H1⟩ (E.trans E1)
        rw [hframe]
        exact put_rel (Re.fr.mono fun _ _ z => z.mono E1.sub) hv
      -- a quiet one leaves the effects as they are
      have keepq : isEff qt x.k = false → ∀ e y, os[e]? = some y → isEff qt y.k = true → ((sel listed e || e == i) = true ↔ e < q) := by
        intro hq e y hy hey
        have hne : (e == i) = false := by
          simp
          intro h; subst h; rw [hx] at hy; cases hy; rw [hq] at hey; cases hey
        rw [hne, Bool.or_false]
        exact U.eff e y hy hey
      unfold wpOp
      simp only [ho]
      rw [hwant]
      cases hw : want (fr i) x.g with
      | false =>
        simp only [Bool.false_eq_true, if_false]
        obtain ⟨n1, n2⟩ := R.walk.no i x hx hw
        cases he : isEff qt x.k with
        | false => exact go q undef w ι (keepq he) U.le (by rw [n1]; exact VR.undef ι) Re.hr (Ext.refl _ _ _)
        | true =>
          obtain ⟨e1, e2, e3⟩ := R.effAt U N hx he
          have e4 : hp (i + 1) = hp q := by rw [n2, e2]
          exact go (i + 1) undef w ι e3 (by omega) (by rw [n1]; exact VR.undef ι) (by rw [e4]; exact Re.hr) (by rw [e4]; exact Ext.refl _ _ _)
      | true =>
        simp only [if_true]
        refine .inl ?_
        have fin : ∀ q', (∀ e y, os[e]? = some y → isEff qt y.k = true → ((sel listed e || e == i) = true ↔ e < q')) → q' ≤ os.length → opA Γ x.k (fr i) (hp q) = some (vl i, hp q') →
            o.wp P a w (wpAny P .any ops Q fuel (listed.setIfInBounds i true)) Q := by
          intro q' g1 g2 hev
          have hev' : opA Γ (stK P o.op) (lastV os vl (sel listed) (fr 0) os.length) (hp q) = some (vl i, hp q') := by rw [← hk, opA_congr hfr.1]; exact hev
          have hop := op_sim hΓ Re.hr Re.fr hev'
          unfold Oper.wp
          cases hop with
          | eff he =>
            obtain ⟨w1, ι1, hrun, H1, E1⟩ := he
            rcases hrun with ⟨v', hrun, hv'⟩ | ⟨hrun, hvu⟩
            · rw [hrun]; exact go q' v' w1 ι1 g1 g2 hv' H1 E1
            · rw [hrun]; exact go q' undef w1 ι1 g1 g2 (by rw [hvu]; exact VR.undef ι1) H1 E1
          | call f args' hrun hcl =>
            rw [hrun]
            exact hcl.mono fun e w1 ⟨v', ι1, he, hv', H1, E1⟩ => by subst he; exact go q' v' w1 ι1 g1 g2 hv' H1 E1
        cases he : isEff qt x.k with
        | false => exact fin q (keepq he) U.le (R.eval U N hx hw he)
        | true =>
          obtain ⟨e1, e2, e3⟩ := R.effAt U N hx he
          exact fin (i + 1) e3 (by omega) (by rw [e2]; exact R.walk.yes i x hx hw)

/-- What the cross pairs ask. -/
def CrossOk (Γ : Env) (os : List IOp) (X : List (Nat × Nat)) (t : Fr) (h : Heap) : Prop :=
  ∀ p ∈ X, ∀ x ti hi tj hj, os[p.1]? = some x → runR Γ (os.take p.1) t h = some (ti, hi) → runR Γ (os.take (if p.1 < p.2 then p.2 + 1 else p.2)) t h = some (tj, hj) → want ti x.g = true →
    ∀ v h1, opA Γ x.k ti hi = some (v, h1) → ∃ h2, opA Γ x.k ti hj = some (v, h2)

theorem dreg_sim (hm : P.follows .mixedOrders = true) (hΓ : EnvOk P Γ) (hq : QuietEnv qt Γ) {X : List (Nat × Nat)} (hs : stD P qt ops = some (os, X)) {t' : Fr} {h' : Heap} (hr : runR Γ os t h = some (t', h')) (hx : CrossOk Γ os X t h)
    (Re : Rel ι t h a w) {id : Nat} {Q : Exit → Act → World → Prop} (K : ∀ ι' a' w', Rel ι' t' h' a' w' → Ext ι h w ι' h' w' → Q .normal a' w') : (Code.region id ops true).wp P Q a w := by
  unfold stD at hs
  split at hs
  · rename_i os0 B hst hB
    split at hs
    · rename_i hchk
      cases hs
      obtain ⟨fr, hp, vl, f0, p0, fn, pn, W, pre⟩ := walk_of os t h t' h' hr
      subst f0
      subst p0
      have R : Reg P qt Γ ops os B fr hp vl := by
        refine ⟨hst, hB, hchk, hq, W, fun i j x hxi hcr hw => ?_⟩
        have hil := (List.getElem?_eq_some_iff.1 hxi).1
        have hjl : j < os.length := by
          unfold crossP at hcr
          rw [hxi] at hcr
          cases hy : os[j]? with
          | none => rw [hy] at hcr; cases hcr
          | some y => exact (List.getElem?_eq_some_iff.1 hy).1
        have hmem : (i, j) ∈ crossOf qt os B := by
          unfold crossOf
          exact List.mem_flatMap.2 ⟨i, List.mem_range.2 hil, List.mem_map.2 ⟨j, List.mem_filter.2 ⟨List.mem_range.2 hjl, hcr⟩, rfl⟩⟩
        exact hx (i, j) hmem x _ _ _ _ hxi (pre i (by omega)) (pre _ (by dsimp only; split <;> omega)) hw (vl i) _ (W.yes i x hxi hw)
      refine wp_region_any hm ?_
      have hsz : ops.size = os.length := by rw [← R.len]; simp
      have hnone : ∀ i, sel (Array.replicate ops.size false) i = false := by
        intro i
        unfold sel
        by_cases hi : i < ops.size
        · simp [Array.getD, hi]
        · simp [Array.getD, hi]
      have hl0 : ∀ m, lastV os vl (sel (Array.replicate ops.size false)) (fr 0) m = fr 0 := by
        intro m
        induction m with
        | zero => rfl
        | succ m ih => simp only [lastV, hnone, Bool.false_eq_true, if_false, ih]
      have E0 : Ext ι (hp 0) w ι (hp 0) { w with drawn := w.drawn + 1 } := Ext.drawn rfl rfl rfl rfl
      have U0 : Up P qt ops os (sel (Array.replicate ops.size false)) 0 := ⟨fun i o _ hS => (by rw [hnone] at hS; cases hS), fun e x _ _ => (by rw [hnone]; simp), Nat.zero_le _⟩
      have R0 : Rel ι (lastV os vl (sel (Array.replicate ops.size false)) (fr 0) os.length) (hp 0) a { w with drawn := w.drawn + 1 } := by
        rw [hl0]
        exact ⟨Re.fr, Re.defers, Re.hr.drawn rfl⟩
      have c0 : (List.range os.length).countP (fun i => !sel (Array.replicate ops.size false) i) = ops.size := by
        rw [hsz, List.countP_eq_length.2 fun i _ => by rw [← hsz, hnone]; rfl]
        simp
      refine any_sim hΓ R (ι0 := ι) (h0 := hp 0) (w0 := w) (fun ι' a' w' r1 r2 => K ι' a' w' (by rw [← fn, ← pn]; exact r1) (by rw [← pn]; exact r2)) ops.size _ a _ ι 0 (by simp [hsz]) c0 U0 R0 E0
    · cases hs
  · cases hs

end Go.Am
