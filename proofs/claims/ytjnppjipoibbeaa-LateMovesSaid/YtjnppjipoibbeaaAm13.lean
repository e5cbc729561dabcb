/-
  Regions in the order of the text; what code does, said of heaps; the rules; functions.
-/
import Derived.Test.YtjnppjipoibbeaaAm12
namespace Go.Am
set_option linter.all false

variable {P : Program} {ι : Map} {h : Heap} {w w' : World} {t : Fr} {a : Act}

structure Rel (ι : Map) (t : Fr) (h : Heap) (a : Act) (w : World) : Prop where
  fr : F2 (VR ι) t a.tmps.toList
  defers : a.defers = []
  hr : HR ι h w

theorem put_rel {dst : Option Tmp} {v v' : Value} (hF : F2 (VR ι) t a.tmps.toList) (hv : VR ι v v') : F2 (VR ι) (put t dst v) (a.put dst v').tmps.toList := by
  cases dst with
  | none => exact hF
  | some d => simp only [put, Act.put, Array.toList_setIfInBounds]; exact hF.set d _ _ hv
theorem put_defers {dst : Option Tmp} {v : Value} : (a.put dst v).defers = a.defers := by cases dst <;> rfl

theorem bool_of_vr {u u' : Value} (hv : VR ι u u') : (∀ b, u = .bool b → u' = .bool b) ∧ (∀ b, u' = .bool b → u = .bool b) := by
  constructor
  · intro b hb; subst hb; exact hv.bool_inv
  · intro b hb; subst hb
    cases hv with
    | va hv => cases hv with
      | vc hv => cases hv with
        | v0 hv => cases hv; rfl

theorem want_at {ops : Array Oper} {o : Oper} {g : Option (Nat × Bool)} (hF : ∀ d b, g = some (d, b) → VR ι (t.getD d undef) (a.tmps.toList.getD d undef)) (hg : stG ops o.guard = some g) : Region.wanted o (yielded ops a.tmps) = want t g := by
  unfold Region.wanted
  unfold stG at hg
  cases hgu : o.guard with
  | none => rw [hgu] at hg; cases hg; rfl
  | some jb =>
    obtain ⟨j, b⟩ := jb
    rw [hgu] at hg
    dsimp only at hg ⊢
    split at hg
    · rename_i oj hj
      split at hg
      · rename_i d hd
        cases hg
        simp only [want, yielded, hj, Option.bind_some, hd]
        have hv := hF d _ rfl
        obtain ⟨b1, b2⟩ := bool_of_vr hv
        have e : (a.tmps[d]? : Option Value) = a.tmps.toList[d]? := by simp
        rw [e]
        generalize t.getD d undef = x at b1 b2
        cases hq : a.tmps.toList[d]? with
        | none =>
          have hq2 : a.tmps.toList.getD d undef = undef := by simp [List.getD, hq]
          rw [hq2] at b1
          cases x <;> first | rfl | skip
          rename_i c
          have := b1 c rfl
          cases this
        | some u =>
          have hq2 : a.tmps.toList.getD d undef = u := by simp [List.getD, hq]
          rw [hq2] at b1 b2
          cases x
          case bool c =>
            have := b1 c rfl
            subst this
            cases c <;> cases b <;> rfl
          all_goals
            cases u <;> first | rfl | skip
            rename_i c
            have := b2 c rfl
            cases this
      · cases hg
    · cases hg

theorem want_sim {ops : Array Oper} {o : Oper} {g : Option (Nat × Bool)} (hF : F2 (VR ι) t a.tmps.toList) (hg : stG ops o.guard = some g) : Region.wanted o (yielded ops a.tmps) = want t g :=
  want_at (fun d _ _ => hF.getD d _ _ (VR.undef ι)) hg

theorem region_sim {Γ : Env} (hΓ : EnvOk P Γ) {ops : Array Oper} {Q : Exit → Act → World → Prop} {t' : Fr} {h' : Heap} : ∀ (l : List Oper) (ils : List IOp) (t : Fr) (h : Heap) (ι : Map) (a : Act) (w : World),
    stOps P ops l = some ils → runR Γ ils t h = some (t', h') → Rel ι t h a w → (∀ ι' a' w', Rel ι' t' h' a' w' → Ext ι h w ι' h' w' → Q .normal a' w') → wpList P ops Q l a w
  | [], ils, t, h, ι, a, w, hs, hr, R, K => by
    cases hs
    cases hr
    exact K ι a w R (Ext.refl _ _ _)
  | o :: l, ils, t, h, ι, a, w, hs, hr, R, K => by
    simp only [stOps] at hs
    split at hs
    · rename_i x il hx hil
      cases hs
      unfold stOp at hx
      split at hx
      · rename_i g hg
        cases hx
        unfold wpList
        rw [want_sim R.fr hg]
        simp only [runR] at hr
        split at hr
        · rename_i hw
          rw [if_pos hw]
          refine .inl ?_
          split at hr
          · rename_i v h1 hv
            have hop := op_sim hΓ R.hr R.fr hv
            have next : ∀ (v' : Value) (w1 : World) (ι1 : Map), VR ι1 v v' → HR ι1 h1 w1 → Ext ι h w ι1 h1 w1 → wpList P ops Q l (a.put o.dst v') w1 := by
              intro v' w1 ι1 hv' H1 E1
              exact region_sim hΓ l il _ h1 ι1 _ w1 hil hr ⟨put_rel (R.fr.mono fun _ _ q => q.mono E1.sub) hv', by rw [put_defers]; exact R.defers, H1⟩ fun ι2 a2 w2 R2 E2 => K ι2 a2 w2 R2 (E1.trans E2)
            unfold Oper.wp
            cases hop with
            | eff he =>
              obtain ⟨w1, ι1, hrun, H1, E1⟩ := he
              rcases hrun with ⟨v', hrun, hv'⟩ | ⟨hrun, rfl⟩
              · rw [hrun]; exact next v' w1 ι1 hv' H1 E1
              · rw [hrun]; exact next undef w1 ι1 (VR.undef ι1) H1 E1
            | call f args' hrun hc =>
              rw [hrun]
              exact hc.mono fun e w1 ⟨v', ι1, he, hv', H1, E1⟩ => by subst he; exact next v' w1 ι1 hv' H1 E1
          · cases hr
        · rename_i hw
          rw [if_neg hw]
          exact region_sim hΓ l il _ h ι _ w hil hr ⟨put_rel R.fr (VR.undef ι), by rw [put_defers]; exact R.defers, R.hr⟩ K
      · cases hx
    · cases hs

theorem least {p : Nat → Prop} (n : Nat) (h : p n) : ∃ m, p m ∧ ∀ k, p k → m ≤ k := by
  induction n using Nat.strongRecOn with
  | _ n ih =>
    by_cases q : ∃ k, k < n ∧ p k
    · obtain ⟨k, hk, hp⟩ := q; exact ih k hk hp
    · exact ⟨n, h, fun k hk => Nat.le_of_not_lt fun hlt => q ⟨k, hlt, hk⟩⟩

/-! ### Letting go -/
def below0 (n : Nat) : Value → Bool
  | .pointer (some a) => decide (a.block < n)
  | .slice (some a) _ _ => decide (a.block < n)
  | _ => true
def belowC (n : Nat) : Value → Bool
  | .func _ a b => a.toList.all (below0 n) && b.toList.all (below0 n)
  | v => below0 n v
def belowA (n : Nat) : Value → Bool
  | .agg a => a.toList.all (belowC n)
  | v => belowC n v
def belowV (n : Nat) : Value → Bool
  | .tuple a => a.toList.all (belowA n)
  | v => belowA n v

def cutM (ι : Map) (n : Nat) : Map := fun B => if B < n then ι B else none
theorem V0.cut {n : Nat} {v v' : Value} (hv : V0 ι v v') (hb : below0 n v = true) : V0 (cutM ι n) v v' := by
  cases hv with
  | ptr hl => simp only [below0, decide_eq_true_eq] at hb; exact .ptr (by simp [cutM, hb, hl])
  | sl hl hc => simp only [below0, decide_eq_true_eq] at hb; exact .sl (by simp [cutM, hb, hl]) hc
  | sl0 hl => simp only [below0, decide_eq_true_eq] at hb; exact .sl0 (by simp [cutM, hb]; exact hl)
  | _ => constructor
theorem F2.cut {α β : Type} {R S : α → β → Prop} {q : α → Bool} (hr : ∀ a b, R a b → q a = true → S a b) {l : List α} {m : List β} (hf : F2 R l m) (hq : l.all q = true) : F2 S l m := by
  induction hf with
  | nil => exact .nil
  | cons h _ ih =>
    simp only [List.all_cons, Bool.and_eq_true] at hq
    exact .cons (hr _ _ h hq.1) (ih hq.2)
theorem VC.cut {n : Nat} {v v' : Value} (hv : VC ι v v') (hb : belowC n v = true) : VC (cutM ι n) v v' := by
  cases hv with
  | v0 h => exact .v0 (h.cut (by cases h <;> exact hb))
  | fn f h1 h2 =>
    simp only [belowC, Bool.and_eq_true] at hb
    exact .fn f (h1.cut (fun _ _ h q => h.cut q) hb.1) (h2.cut (fun _ _ h q => h.cut q) hb.2)
theorem VA.cut {n : Nat} {v v' : Value} (hv : VA ι v v') (hb : belowA n v = true) : VA (cutM ι n) v v' := by
  cases hv with
  | vc h => exact .vc (h.cut (by cases h with | v0 h => cases h <;> exact hb | fn => exact hb))
  | agg h => exact .agg (h.cut (fun _ _ h q => h.cut q) hb)
theorem VR.cut {n : Nat} {v v' : Value} (hv : VR ι v v') (hb : belowV n v = true) : VR (cutM ι n) v v' := by
  cases hv with
  | va h => exact .va (h.cut (by
      cases h with
      | vc h => cases h with
        | v0 h => cases h <;> exact hb
        | fn => exact hb
      | agg h => exact hb))
  | tup h => exact .tup (h.cut (fun _ _ h q => h.cut q) hb)

def belowB (n : Nat) : Option Blk → Bool
  | some b => b.cells.all (belowC n)
  | none => true

theorem HR.cut {h' : Heap} (H : HR ι h' w) (n : Nat) (hn : n ≤ h'.length) (hb : (h'.take n).all (belowB n) = true) : HR (cutM ι n) (h'.take n) w where
  dom := fun B l e => by
    unfold cutM at e
    split at e
    · simp; omega
    · cases e
  live := fun B blk e => by
    rw [List.getElem?_take] at e
    split at e
    · rename_i hB
      obtain ⟨l, e1, f1, f2, f3, f4, c, e2, f, f5, f6, f7, f8⟩ := H.live B blk e
      have hq : belowB n (some blk) = true := List.all_eq_true.1 hb _ (List.mem_of_getElem? (by rw [List.getElem?_take, if_pos hB]; exact e))
      exact ⟨l, by simp [cutM, hB, e1], f1, f2, f3, f4, c, e2, f, f5, f6, f7, f8.cut (fun _ _ h q => h.cut q) hq⟩
    · cases e
  apart := fun B1 B2 b1 b2 l1 l2 e1 e2 hne hr h1 h2 => by
    rw [List.getElem?_take] at e1 e2
    split at e1
    · rename_i q1
      split at e2
      · rename_i q2
        simp only [cutM, q1, q2, if_true] at h1 h2
        exact H.apart B1 B2 b1 b2 l1 l2 e1 e2 hne hr h1 h2
      · cases e2
    · cases e1

theorem Ext.cut {ι' : Map} {h' : Heap} (H : HR ι h w) (E : Ext ι h w ι' h' w') : Ext ι h w (cutM ι' h.length) (h'.take h.length) w' where
  sub := fun B l e => by have := H.dom B l e; simp only [cutM, this, if_true]; exact E.sub B l e
  size := E.size
  frame := E.frame
  imgs := fun B blk l e hr hl => by
    rw [List.getElem?_take] at e
    split at e
    · rename_i q
      simp only [cutM, q, if_true] at hl
      exact E.imgs B blk l e hr hl
    · cases e
  os := E.os
  tape := E.tape
  output := E.output
  imgR := fun B blk l e hl => by
    rw [List.getElem?_take] at e
    split at e
    · rename_i q
      simp only [cutM, q, if_true] at hl
      exact E.imgR B blk l e hl
    · cases e


theorem V0.below {n : Nat} (hd : ∀ B l, ι B = some l → B < n) {v v' : Value} (hv : V0 ι v v') : below0 n v = true := by
  cases hv with
  | ptr hl => simp only [below0, decide_eq_true_eq]; exact hd _ _ hl
  | sl hl hc => simp only [below0, decide_eq_true_eq]; exact hd _ _ hl
  | sl0 hl => simp only [below0, decide_eq_true_eq]; exact hd _ _ hl
  | _ => rfl
theorem F2.allB {α β : Type} {R : α → β → Prop} {q : α → Bool} (hr : ∀ a b, R a b → q a = true) {l : List α} {m : List β} (hf : F2 R l m) : l.all q = true := by
  induction hf with
  | nil => rfl
  | cons h _ ih => simp only [List.all_cons, Bool.and_eq_true]; exact ⟨hr _ _ h, ih⟩
theorem VC.below {n : Nat} (hd : ∀ B l, ι B = some l → B < n) {v v' : Value} (hv : VC ι v v') : belowC n v = true := by
  cases hv with
  | v0 h =>
    have := h.below hd
    cases h <;> exact this
  | fn f h1 h2 =>
    simp only [belowC, Bool.and_eq_true]
    exact ⟨h1.allB fun _ _ h => h.below hd, h2.allB fun _ _ h => h.below hd⟩
/-- The cells of a value that stands for another are below. -/
theorem VR.cells_below {n : Nat} (hd : ∀ B l, ι B = some l → B < n) {v v' : Value} (hv : VR ι v v') (hn : noTup v = true) : v.cells.toList.all (belowC n) = true := by
  cases hv with
  | va h => exact h.cells.allB fun _ _ h => h.below hd
  | tup h => cases hn
theorem HR.allBelow (H : HR ι h w) : h.all (belowB h.length) = true := by
  rw [List.all_eq_true]
  intro x hx
  cases x with
  | none => rfl
  | some blk =>
    obtain ⟨B, hB⟩ := List.mem_iff_getElem?.1 hx
    obtain ⟨l, _, _, _, _, _, c, _, _, _, _, _, hf⟩ := H.live B blk hB
    exact hf.allB fun _ _ h => h.below H.dom

end Go.Am
