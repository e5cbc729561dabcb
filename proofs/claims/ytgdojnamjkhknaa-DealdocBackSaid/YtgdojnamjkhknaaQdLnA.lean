/-
  A logic over the kit's wp, part LnA: Ln0, Ln1. No conditions.
-/
import Derived.Test.YtgdojnamjkhknaaQdLcA
import Derived.RangeFuncFrom
import Derived.RangeFuncLeaves
import Derived.TacticsIn
namespace Go.Am
set_option linter.all false
open Go.RowKit
variable {P : Program} {ι : Map} {h : Heap} {w w' : World} {t : Fr} {a : Act} {qt : List Nat}
abbrev rF (r : Option Nat) : Fence := { Fence.wide with round := r }
theorem rF_calls {r : Option Nat} {n : Nat} {f : FuncId} {args : Array Value} {R : Ending → World → Prop} : CallsIn (rF r) n P f args w R ↔ Calls P f args w R := callsIn_wide (n := n)
structure RelD (ds : List Deferred) (ι : Map) (t : Fr) (h : Heap) (a : Act) (w : World) : Prop where
 fr : F2 (VR ι) t a.tmps.toList
 defers : a.defers = ds
 hr : HR ι h w
theorem stK_defer {c : Call} : stK P (.defer c) = .bad := rfl
theorem region_simIn {Γ : Env} (hΓ : EnvOk P Γ) {r : Option Nat} {n : Nat} {ops : Array Oper} {Q : Exit → Act → World → Prop} {ds : List Deferred} {t' : Fr} {h' : Heap} {rest : List Oper} : ∀ (l : List Oper) (ils : List IOp) (t : Fr) (h : Heap) (ι : Map) (a : Act) (w : World),
  stOps P ops l = some ils → runR Γ ils t h = some (t', h') → RelD ds ι t h a w → (∀ ι' a' w', RelD ds ι' t' h' a' w' → Ext ι h w ι' h' w' → wpListIn (rF r) n P ops Q rest a' w') → wpListIn (rF r) n P ops Q (l ++ rest) a w
 | [], ils, t, h, ι, a, w, hs, hr, R, K => by
  cases hs
  cases hr
  exact K ι a w R (Ext.refl _ _ _)
 | o :: l, ils, t, h, ι, a, w, hs, hr, R, K => by
  simp only [stOps] at hs
  split at hs
  ·rename_i x il hx hil
   cases hs
   unfold stOp at hx
   split at hx
   ·rename_i g hg
    cases hx
    rw [List.cons_append]
    unfold wpListIn
    rw [want_sim R.fr hg]
    simp only [runR] at hr
    split at hr
    ·rename_i hw
     rw [if_pos hw]
     split at hr
     ·rename_i v h1 hv
      have hop := op_sim hΓ R.hr R.fr hv
      have nd : ∀ c, o.op ≠ .defer c := fun c q => by
       rw [q, stK_defer] at hv
       simp [opA, pureA] at hv
      have next : ∀ (v' : Value) (w1 : World) (ι1 : Map), VR ι1 v v' → HR ι1 h1 w1 → Ext ι h w ι1 h1 w1 → wpListIn (rF r) n P ops Q (l ++ rest) (a.put o.dst v') w1 := by
       intro v' w1 ι1 hv' H1 E1
       exact region_simIn hΓ l il _ h1 ι1 _ w1 hil hr ⟨put_rel (R.fr.mono fun _ _ q => q.mono E1.sub) hv', by rw [put_defers]; exact R.defers, H1⟩ fun ι2 a2 w2 R2 E2 => K ι2 a2 w2 R2 (E1.trans E2)
      unfold Oper.wpIn
      rw [Oper.semAt_eq _ _ _ nd]
      refine ⟨fun _ _ => trivial, ?_⟩
      cases hop with
      | eff he =>
       obtain ⟨w1, ι1, hrun, H1, E1⟩ := he
       rcases hrun with ⟨v', hrun, hv'⟩ | ⟨hrun, rfl⟩
       ·rw [hrun]; exact next v' w1 ι1 hv' H1 E1
       ·rw [hrun]; exact next undef w1 ι1 (VR.undef ι1) H1 E1
      | call f args' hrun hc =>
       rw [hrun]
       refine ⟨fun q => (by cases q), rF_calls.2 (hc.mono fun e w1 ⟨v', ι1, he, hv', H1, E1⟩ => ?_)⟩
       subst he; exact next v' w1 ι1 hv' H1 E1
     ·cases hr
    ·rename_i hw
     rw [if_neg hw]
     exact ⟨fun _ _ => trivial, region_simIn hΓ l il _ h ι _ w hil hr ⟨put_rel R.fr (VR.undef ι), by rw [put_defers]; exact R.defers, R.hr⟩ K⟩
   ·cases hx
  ·cases hs
def TF (P : Program) (r : Option Nat) (n : Nat) (ds : List Deferred) (c : Code) (Q : Post) (t : Fr) (h : Heap) : Prop :=
 ∀ (ι : Map) (a : Act) (w : World), RelD ds ι t h a w → c.wpIn (rF r) n P (fun e a' w' => ∃ t' h' ι', Q e t' h' ∧ RelD ds ι' t' h' a' w' ∧ Ext ι h w ι' h' w') a w
def noD : IL → Bool
 | .dreg _ _ => false
 | .seq a b => noD a && noD b
 | .ite _ a b => noD a && noD b
 | .block _ a => noD a
 | .loop a => noD a
 | _ => true
theorem execF_simIn {Γ : Env} (hΓ : EnvOk P Γ) {r : Option Nat} {n : Nat} {ds : List Deferred} : ∀ (m : Nat) (x : IL) (code : Code) (t : Fr) (h : Heap) (e : Ex) (t' : Fr) (h' : Heap) (Q : Post), noD x = true → stC P qt code = some x → execF Γ m x t h = some (e, t', h') → Q e.ex t' h' → TF P r n ds code Q t h := by
 intro m
 induction m using Nat.strongRecOn with
 | _ m ih =>
  intro x code t h e t' h' Q hd hc hx hQ
  cases m with
  | zero => cases hx
  | succ m =>
   cases x with
   | skip =>
    have hcode := inv_skip hc; subst hcode; cases hx
    exact fun ι a w R => wpIn_skip ⟨t, h, ι, hQ, R, Ext.refl ι h w⟩
   | exit id =>
    have hcode := inv_exit hc; subst hcode; cases hx
    exact fun ι a w R => wpIn_exit ⟨t, h, ι, hQ, R, Ext.refl ι h w⟩
   | ret =>
    have hcode := inv_ret hc; subst hcode; cases hx
    exact fun ι a w R => wpIn_ret ⟨t, h, ι, hQ, R, Ext.refl ι h w⟩
   | reg ops =>
    obtain ⟨id, os, rfl, hs⟩ := inv_reg hc
    simp only [execF] at hx
    split at hx
    ·rename_i t1 h1 hr; cases hx
     refine fun ι a w R => wpIn_region_list ?_
     have := region_simIn (r := r) (n := n) (rest := []) (Q := fun e a' w' => ∃ t' h' ι', Q e t' h' ∧ RelD ds ι' t' h' a' w' ∧ Ext ι h w ι' h' w') hΓ os.toList ops t h ι a w hs hr R fun ι' a' w' R' E' => ⟨_, _, ι', hQ, R', E'⟩
     simpa using this
    ·cases hx
   | dreg ops X => cases hd
   | seq x y =>
    obtain ⟨a0, b0, rfl, hxx, hyy⟩ := inv_seq hc
    simp only [noD, Bool.and_eq_true] at hd
    simp only [execF] at hx
    split at hx
    ·rename_i t1 h1 h1x
     intro ι a w R
     refine wpIn_seq (wpIn_mono (ih m (by omega) x a0 t h _ t1 h1 (fun e t2 h2 => e = .normal ∧ t2 = t1 ∧ h2 = h1) hd.1 hxx h1x ⟨rfl, rfl, rfl⟩ ι a w R) fun e1 a1 w1 ⟨t2, h2, ι2, ⟨q1, q2, q3⟩, R2, E2⟩ => ?_)
     subst q1 q2 q3
     exact wpIn_mono (ih m (by omega) y b0 t2 h2 e t' h' Q hd.2 hyy hx hQ ι2 a1 w1 R2) fun e a2 w2 ⟨t2, h2, ι2, q2, R2, E3⟩ => ⟨t2, h2, ι2, q2, R2, E2.trans E3⟩
    ·rename_i r hne
     intro ι a w R
     refine wpIn_seq (wpIn_mono (ih m (by omega) x a0 t h e t' h' (fun e t2 h2 => e ≠ .normal ∧ Q e t2 h2) hd.1 hxx hx ⟨?_, hQ⟩ ι a w R) fun e1 a1 w1 ⟨t2, h2, ι2, ⟨q1, q2⟩, R2, E2⟩ => ?_)
     ·cases e with
      | normal => exact absurd hx (hne t' h')
      | _ => simp [Ex.ex]
     ·cases e1 with
      | normal => exact absurd rfl q1
      | _ => exact ⟨t2, h2, ι2, q2, R2, E2⟩
   | ite c x y =>
    obtain ⟨a0, b0, rfl, ho, hxx, hyy⟩ := inv_ite hc
    simp only [noD, Bool.and_eq_true] at hd
    simp only [execF] at hx
    intro ι a w R
    have hv := ev_sim R.fr ho
    split at hx
    ·rename_i hb; rw [hb] at hv
     exact wpIn_cond_true hv.bool_inv (ih m (by omega) x a0 t h e t' h' Q hd.1 hxx hx hQ ι a w R)
    ·rename_i hb; rw [hb] at hv
     exact wpIn_cond_false hv.bool_inv (ih m (by omega) y b0 t h e t' h' Q hd.2 hyy hx hQ ι a w R)
    ·cases hx
   | block id x =>
    obtain ⟨b0, rfl, hxx⟩ := inv_block hc
    simp only [execF] at hx
    intro ι a w R
    split at hx
    ·rename_i i t1 h1 h1x
     refine wpIn_block (wpIn_mono (ih m (by omega) x b0 t h _ t1 h1 (fun e t2 h2 => e = .exit i ∧ t2 = t1 ∧ h2 = h1) hd hxx h1x ⟨rfl, rfl, rfl⟩ ι a w R) fun e1 a1 w1 ⟨t2, h2, ι2, ⟨q1, q2, q3⟩, R2, E2⟩ => ?_)
     subst q1 q2 q3
     simp only [Exit.inBlock]
     split at hx
     ·rename_i hi; cases hx; rw [if_pos hi]; exact ⟨_, _, ι2, hQ, R2, E2⟩
     ·rename_i hi; cases hx; rw [if_neg hi]; exact ⟨_, _, ι2, hQ, R2, E2⟩
    ·rename_i r hne
     refine wpIn_block (wpIn_mono (ih m (by omega) x b0 t h e t' h' (fun e1 t2 h2 => e1 = e.ex ∧ Q e1 t2 h2) hd hxx hx ⟨rfl, hQ⟩ ι a w R) fun e1 a1 w1 ⟨t2, h2, ι2, ⟨q1, q2⟩, R2, E2⟩ => ?_)
     subst q1
     cases e with
     | exit i => exact absurd hx (hne i t' h')
     | _ => exact ⟨t2, h2, ι2, q2, R2, E2⟩
   | loop x =>
    obtain ⟨b0, rfl, hxx⟩ := inv_loop hc
    intro ι a w R
    let J : Nat → Act → World → Prop := fun k a1 w1 => ∃ t1 h1 ι1, (k ≤ m + 1 ∧ execF Γ k (.loop x) t1 h1 = some (e, t', h')) ∧ RelD ds ι1 t1 h1 a1 w1 ∧ Ext ι h w ι1 h1 w1
    classical
    let μ : Act → World → Nat := fun a1 w1 => if q : ∃ m, J m a1 w1 ∧ ∀ k, J k a1 w1 → m ≤ k then q.choose else 0
    refine wpIn_loop (fun a1 w1 => ∃ k, J k a1 w1) μ ⟨m + 1, t, h, ι, ⟨Nat.le_refl _, hx⟩, R, Ext.refl ι h w⟩ fun a1 w1 ⟨k0, hk0⟩ => ?_
    have q := least (p := fun k => J k a1 w1) k0 hk0
    have hμ : μ a1 w1 = q.choose := dif_pos q
    obtain ⟨t1, h1, ι1, hi, R1, E1⟩ := q.choose_spec.1
    generalize q.choose = k at hi hμ
    obtain ⟨hk, hi⟩ := hi
    cases k with
    | zero => cases hi
    | succ k =>
     simp only [execF] at hi
     split at hi
     ·rename_i t2 h2 h2x
      refine wpIn_mono (ih k (by omega) x b0 t1 h1 _ t2 h2 (fun e1 t3 h3 => e1 = .normal ∧ t3 = t2 ∧ h3 = h2) hd hxx h2x ⟨rfl, rfl, rfl⟩ ι1 a1 w1 R1) fun e2 a2 w2 ⟨t3, h3, ι3, ⟨q1, q2, q3⟩, R3, E3⟩ => ?_
      subst q1 q2 q3
      have hj : J k a2 w2 := ⟨_, _, ι3, ⟨by omega, hi⟩, R3, E1.trans E3⟩
      refine ⟨⟨k, hj⟩, ?_⟩
      have q3 := least (p := fun k => J k a2 w2) k hj
      have h3 : μ a2 w2 = q3.choose := dif_pos q3
      rw [hμ, h3]
      exact Nat.lt_succ_of_le (q3.choose_spec.2 k hj)
     ·rename_i r hne
      refine wpIn_mono (ih k (by omega) x b0 t1 h1 e t' h' (fun e1 t3 h3 => e1 = e.ex ∧ Q e1 t3 h3) hd hxx hi ⟨rfl, hQ⟩ ι1 a1 w1 R1) fun e2 a2 w2 ⟨t3, h3, ι3, ⟨q1, q2⟩, R3, E3⟩ => ?_
      subst q1
      cases e with
      | normal => exact absurd hi (hne t' h')
      | _ => exact ⟨t3, h3, ι3, q2, R3, E1.trans E3⟩
theorem Wp.round {Γ : Env} (hΓ : EnvOk P Γ) {r : Option Nat} {n : Nat} {ds : List Deferred} {lv : Lv} {x : IL} {code : Code} {K : Post2} (hd : noD x = true) (hc : stC P qt code = some x) (e : Wp Γ lv x t h K) :
  TF P r n ds code (fun e t' h' => ∃ e' s, e = e'.ex ∧ Ag (fun i => lv i = false) t' s ∧ K e' s h') t h := by
 obtain ⟨m, ex, t', h', s, h1, a1, k1⟩ := e
 exact execF_simIn hΓ m x code t h ex t' h' _ hd hc h1 ⟨ex, s, rfl, a1, k1⟩
def noCells (B : Nat) (W : World) (row : Option Nat) : Prop := ∀ r, row = some r → B ≤ r ∧ ∃ o : Obj, W.heap[r]? = some o ∧ o.isCells = false
theorem HR.grown {B : Nat} {W W' : World} {row : Option Nat} (H : HR ι h W) (hg : W.grownBy W' row) (hr : noCells B W row) : HR ι h W' where
 dom := H.dom
 live := fun b blk hb => by
  obtain ⟨l, q1, q2, q3, q4, q5, c, e, f, q6, q7, q8, q9⟩ := H.live b blk hb
  refine ⟨l, q1, q2, q3, q4, q5, c, e, f, ?_, q7, q8, q9⟩
  rw [hg.block l.b (Array.getElem?_eq_some_iff.1 q6).1 fun q => ?_]
  ·exact q6
  ·obtain ⟨_, o, ho, hc⟩ := hr l.b q.symm
   rw [q6] at ho; cases ho; cases hc
 apart := H.apart
theorem Ext.grown {B : Nat} {ι' : Map} {h' : Heap} {W W' : World} {row : Option Nat} (E : Ext ι h w ι' h' W) (hg : W.grownBy W' row) (hr : noCells B W row) (hB : w.heap.size ≤ B) : Ext ι h w ι' h' W' where
 sub := E.sub
 size := Nat.le_trans E.size hg.size
 frame := fun b hb hn => by
  rw [hg.block b (Nat.lt_of_lt_of_le hb E.size) fun q => ?_]
  ·exact E.frame b hb hn
  ·have := (hr b q.symm).1
   omega
 imgs := E.imgs
 os := hg.os.trans E.os
 tape := hg.tape.trans E.tape
 output := hg.output.trans E.output
 imgR := E.imgR
theorem Ext.others {ι' : Map} {h' : Heap} {W W' : World} (H : HR ι h W) (E : Ext ι h W ι' h' W') : KeepsOthers W W' := ⟨E.size, fun k o hk ho => by
 rw [E.frame k (Array.getElem?_eq_some_iff.1 hk).1 fun B blk l hB hr hl q => ?_]
 ·exact hk
 ·obtain ⟨l', q1, _, _, _, _, c, e, f, q6, _⟩ := H.live B blk hB
  rw [hl] at q1; cases q1
  rw [q, hk] at q6; cases q6; cases ho⟩
end Go.Am
namespace Go.Am
variable {P : Program}
theorem Sim.last2 {f : FuncId} {args : List Value} {h : Heap} {n c : Nat} {b : Bool} {blk : Blk} (s : Sim P f args h fun v h' => (∃ B, v = .tuple ⟨[.slice (some ⟨B, 0, none⟩) n c, .bool b]⟩ ∧ h.length ≤ B ∧ h'[B]? = some (some blk)) ∧ h'.take h.length = h)
  (fl : flatC blk = true) (hk : blk.kind ≠ .ro) : Sim P f args h fun v h' => v = .tuple ⟨[.slice (some ⟨h.length, 0, none⟩) n c, .bool b]⟩ ∧ h' = h ++ [some blk] := by
 refine ⟨s.1, fun ι w args' hA H => (s.2 ι w args' hA H).mono fun e w' ⟨v, v', h', ι', ⟨⟨Bn, rv, rB, rb⟩, rt⟩, r2, r3, r4, r5⟩ => ?_⟩
 subst rv
 have hlen : h.length ≤ h'.length := by
  have := (List.getElem?_eq_some_iff.1 rb).1
  omega
 have rp : ∀ B, B < h.length → h'[B]? = h[B]? := fun B hB => by
  have : (h'.take h.length)[B]? = h'[B]? := by rw [List.getElem?_take]; simp [hB]
  rw [← this, rt]
 have a0 := r4.cut h.length hlen (by rw [rt]; exact H.below)
 have b0 := r5.cut H
 rw [rt] at a0 b0
 obtain ⟨ι1, hι1⟩ : ∃ ι1, ι1 = cutM ι' h.length := ⟨_, rfl⟩
 rw [← hι1] at a0 b0
 have sub1 : Sub ι1 ι' := by rw [hι1]; intro B l e; unfold cutM at e; split at e; exact e; cases e
 obtain ⟨l, q1, q2, q3, q4, q5, c', e', f', q6, q7, q8, q9⟩ := r4.live _ _ rb
 let ι2 : Map := fun B => if B = h.length then ι' Bn else ι1 B
 have new : ι2 h.length = some l := by simp only [ι2, if_true]; exact q1
 have old : ∀ B, B ≠ h.length → ι2 B = ι1 B := fun B hB => by simp only [ι2, hB, if_false]
 have sub : Sub ι1 ι2 := fun B l e => by
  have := a0.dom B l e
  rw [old B (by omega)]; exact e
 have hin : ∀ B blk0, (h ++ [some blk])[B]? = some (some blk0) → (B < h.length ∧ h[B]? = some (some blk0)) ∨ (B = h.length ∧ blk0 = blk) := fun B blk0 e => by
  rcases Nat.lt_trichotomy B h.length with q | q | q
  ·left; rw [List.getElem?_append_left q] at e; exact ⟨q, e⟩
  ·right; subst q; simp at e; exact ⟨rfl, e.symm⟩
  ·rw [List.getElem?_eq_none (by simp; omega)] at e; cases e
 have far : ∀ B blk2 l2, h[B]? = some (some blk2) → ι1 B = some l2 → l.b ≠ l2.b := fun B blk2 l2 e1 e2 => by
  have hlt : B < h.length := (List.getElem?_eq_some_iff.1 e1).1
  exact r4.apart Bn B blk blk2 l l2 rb (by rw [rp B hlt, e1]) (by omega) hk q1 (sub1 _ _ e2)
 refine ⟨_, v', h ++ [some blk], ι2, ⟨rfl, rfl⟩, r2, ?_, ?_, ?_⟩
 ·cases r3 with
  | va r3 => cases r3 with
   | vc r3 => cases r3 with
    | v0 r3 => cases r3
  | tup r3 => cases r3 with
   | cons k1 r3 => cases r3 with
    | cons k2 r3 =>
     cases r3
     refine .tup (.cons ?_ (.cons ?_ .nil))
     ·cases k1 with
      | vc k1 => cases k1 with
       | v0 k1 => cases k1 with
        | sl g1 g2 =>
         rw [q1] at g1; cases g1
         exact .vc (.v0 (.sl new g2))
        | sl0 g1 =>
         exact .vc (.v0 (.sl0 new))
     ·cases k2 with
      | vc k2 => cases k2 with
       | v0 k2 => cases k2 with
        | bool => exact .vc (.v0 (.bool _))
 ·constructor
  ·intro B l' e
   by_cases hB : B = h.length
   ·simp [hB]
   ·rw [old B hB] at e
    have := a0.dom B l' e
    simp; omega
  ·intro B blk0 e
   rcases hin B blk0 e with ⟨hlt, e⟩ | ⟨rfl, rfl⟩
   ·obtain ⟨l', z1, z2, z3, z4, z5, c3, e3, f3, z6, z7, z8, z9⟩ := a0.live _ _ e
    exact ⟨l', sub _ _ z1, z2, z3, z4, z5, c3, e3, f3, z6, z7, z8, z9.mono fun _ _ k => k.mono sub⟩
   ·exact ⟨l, new, q2, q3, q4, q5, c', e', f', q6, q7, q8, flat_cells q9 fl⟩
  ·intro B1 B2 b1 b2 l1 l2 e1 e2 hne hk1 i1 i2
   rcases hin B1 b1 e1 with ⟨lt1, g1⟩ | ⟨y1, y2⟩ <;> rcases hin B2 b2 e2 with ⟨lt2, g2⟩ | ⟨y3, y4⟩
   ·rw [old B1 (by omega)] at i1
    rw [old B2 (by omega)] at i2
    exact a0.apart _ _ _ _ _ _ g1 g2 hne hk1 i1 i2
   ·rw [old B1 (by omega)] at i1
    rw [y3, new] at i2; cases i2
    exact (far _ _ _ g1 i1).symm
   ·rw [old B2 (by omega)] at i2
    rw [y1, new] at i1; cases i1
    exact far _ _ _ g2 i2
   ·exact absurd (y1.trans y3.symm) hne
 ·refine ⟨fun B l e => sub _ _ (b0.sub _ _ e), r5.size, b0.frame, ?_, r5.os, r5.tape, r5.output, ?_⟩
  ·intro B blk0 l' e hk' i
   rcases hin B blk0 e with ⟨hlt, e⟩ | ⟨rfl, rfl⟩
   ·rw [old B (by omega)] at i
    exact b0.imgs B blk0 l' e hk' i
   ·rw [new] at i; cases i
    exact r5.imgs Bn blk0 l rb hk' q1
  ·intro B blk0 l' e i
   rcases hin B blk0 e with ⟨hlt, e⟩ | ⟨rfl, rfl⟩
   ·rw [old B (by omega)] at i
    exact b0.imgR B blk0 l' e i
   ·rw [new] at i; cases i
    exact r5.imgR Bn blk0 l rb q1
end Go.Am
namespace Go.Am
set_option linter.all false
end Go.Am
