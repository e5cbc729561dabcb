/-
  Regions in the order of the text; what code does, said of heaps; the rules; functions.
-/
import Derived.Test.YteeejcnnhfbgpaaAm12
namespace Go.Am
set_option linter.all false

variable {P : Program} {ι : Map} {h : Heap} {w w' : World} {t : Fr} {a : Act}

structure Rel (ι : Map) (t : Fr) (h : Heap) (a : Act) (w : World) : Prop where
  fr : F2 (VR ι) t a.tmps.toList
  defers : a.defers = []
  hr : HR ι h w

theorem put_rel {dst : Option Tmp} {v v' : Value} (hF : F2 (VR ι) t a.tmps.toList) (hv : VR ι v v') : F2 (VR ι) (put t dst v) (a.put dst v').tmps.toList := by
  cases dst with
  | none => exact hF
  | some d => simp only [put, Act.put, Array.toList_setIfInBounds]; exact hF.set d _ _ hv
theorem put_defers {dst : Option Tmp} {v : Value} : (a.put dst v).defers = a.defers := by cases dst <;> rfl

theorem bool_of_vr {u u' : Value} (hv : VR ι u u') : (∀ b, u = .bool b → u' = .bool b) ∧ (∀ b, u' = .bool b → u = .bool b) := by
  constructor
  · intro b hb; subst hb; exact hv.bool_inv
  · intro b hb; subst hb
    cases hv with
    | va hv => cases hv with
      | vc hv => cases hv with
        | v0 hv => cases hv; rfl

theorem want_sim {ops : Array Oper} {o : Oper} {g : Option (Nat × Bool)} (hF : F2 (VR ι) t a.tmps.toList) (hg : stG ops o.guard = some g) : Region.wanted o (yielded ops a.tmps) = want t g := by
  unfold Region.wanted
  unfold stG at hg
  cases hgu : o.guard with
  | none => rw [hgu] at hg; cases hg; rfl
  | some jb =>
    obtain ⟨j, b⟩ := jb
    rw [hgu] at hg
    dsimp only at hg ⊢
    split at hg
    · rename_i oj hj
      split at hg
      · rename_i d hd
        cases hg
        simp only [want, yielded, hj, Option.bind_some, hd]
        have hv := hF.getD d _ _ (VR.undef ι)
        obtain ⟨b1, b2⟩ := bool_of_vr hv
        have e : (a.tmps[d]? : Option Value) = a.tmps.toList[d]? := by simp
        rw [e]
        generalize t.getD d undef = x at b1 b2
        cases hq : a.tmps.toList[d]? with
        | none =>
          have hq2 : a.tmps.toList.getD d undef = undef := by simp [List.getD, hq]
          rw [hq2] at b1
          cases x <;> first | rfl | skip
          rename_i c
          have := b1 c rfl
          cases this
        | some u =>
          have hq2 : a.tmps.toList.getD d undef = u := by simp [List.getD, hq]
          rw [hq2] at b1 b2
          cases x
          case bool c =>
            have := b1 c rfl
            subst this
            cases c <;> cases b <;> rfl
          all_goals
            cases u <;> first | rfl | skip
            rename_i c
            have := b2 c rfl
            cases this
      · cases hg
    · cases hg

theorem region_sim {Γ : Env} (hΓ : EnvOk P Γ) {ops : Array Oper} {Q : Exit → Act → World → Prop} {t' : Fr} {h' : Heap} : ∀ (l : List Oper) (ils : List IOp) (t : Fr) (h : Heap) (ι : Map) (a : Act) (w : World),
    stOps P ops l = some ils → runR Γ ils t h = some (t', h') → Rel ι t h a w → (∀ ι' a' w', Rel ι' t' h' a' w' → Ext ι h w ι' h' w' → Q .normal a' w') → wpList P ops Q l a w
  | [], ils, t, h, ι, a, w, hs, hr, R, K => by
    cases hs
    cases hr
    exact K ι a w R (Ext.refl _ _ _)
  | o :: l, ils, t, h, ι, a, w, hs, hr, R, K => by
    simp only [stOps] at hs
    split at hs
    · rename_i x il hx hil
      cases hs
      unfold stOp at hx
      split at hx
      · rename_i g hg
        cases hx
        unfold wpList
        rw [want_sim R.fr hg]
        simp only [runR] at hr
        split at hr
        · rename_i hw
          rw [if_pos hw]
          refine .inl ?_
          split at hr
          · rename_i v h1 hv
            have hop := op_sim hΓ R.hr R.fr hv
            have next : ∀ (v' : Value) (w1 : World) (ι1 : Map), VR ι1 v v' → HR ι1 h1 w1 → Ext ι h w ι1 h1 w1 → wpList P ops Q l (a.put o.dst v') w1 := by
              intro v' w1 ι1 hv' H1 E1
              exact region_sim hΓ l il _ h1 ι1 _ w1 hil hr ⟨put_rel (R.fr.mono fun _ _ q => q.mono E1.sub) hv', by rw [put_defers]; exact R.defers, H1⟩ fun ι2 a2 w2 R2 E2 => K ι2 a2 w2 R2 (E1.trans E2)
            unfold Oper.wp
            cases hop with
            | eff he =>
              obtain ⟨w1, ι1, hrun, H1, E1⟩ := he
              rcases hrun with ⟨v', hrun, hv'⟩ | ⟨hrun, rfl⟩
              · rw [hrun]; exact next v' w1 ι1 hv' H1 E1
              · rw [hrun]; exact next undef w1 ι1 (VR.undef ι1) H1 E1
            | call f args' hrun hc =>
              rw [hrun]
              exact hc.mono fun e w1 ⟨v', ι1, he, hv', H1, E1⟩ => by subst he; exact next v' w1 ι1 hv' H1 E1
          · cases hr
        · rename_i hw
          rw [if_neg hw]
          exact region_sim hΓ l il _ h ι _ w hil hr ⟨put_rel R.fr (VR.undef ι), by rw [put_defers]; exact R.defers, R.hr⟩ K
      · cases hx
    · cases hs

theorem least {p : Nat → Prop} (n : Nat) (h : p n) : ∃ m, p m ∧ ∀ k, p k → m ≤ k := by
  induction n using Nat.strongRecOn with
  | _ n ih =>
    by_cases q : ∃ k, k < n ∧ p k
    · obtain ⟨k, hk, hp⟩ := q; exact ih k hk hp
    · exact ⟨n, h, fun k hk => Nat.le_of_not_lt fun hlt => q ⟨k, hlt, hk⟩⟩

end Go.Am
