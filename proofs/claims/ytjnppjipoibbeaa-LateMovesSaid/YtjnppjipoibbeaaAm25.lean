/-
  A call shown at a small heap, used at a greater one; what was laid meanwhile is let go, but for one list.
-/
import Derived.Test.YtjnppjipoibbeaaAm24
namespace Go.Am
set_option linter.all false

variable {P : Program}

def flatC (blk : Blk) : Bool := blk.cells.all (belowC 0)
/-- Arguments at a small heap and at a greater one. -/
inductive Mv0 (ρ : Nat → Nat) (n : Nat) : Value → Value → Prop
  | int (k : IntKind) (z : Int) : Mv0 ρ n (.int k z) (.int k z)
  | bool (b : Bool) : Mv0 ρ n (.bool b) (.bool b)
  | nilSl (a c : Nat) : Mv0 ρ n (.slice none a c) (.slice none a c)
  | sl {B : Nat} (o a c : Nat) : B < n → Mv0 ρ n (.slice (some ⟨B, o, none⟩) a c) (.slice (some ⟨ρ B, o, none⟩) a c)
inductive Mv (ρ : Nat → Nat) (n : Nat) : Value → Value → Prop
  | v0 {v v' : Value} : Mv0 ρ n v v' → Mv ρ n v v'
  | agg {a a' : List Value} : F2 (Mv0 ρ n) a a' → Mv ρ n (.agg ⟨a⟩) (.agg ⟨a'⟩)

def mvM (ρ : Nat → Nat) (n : Nat) (ι : Map) : Map := fun B => if B < n then ι (ρ B) else none

theorem Mv0.vr {ρ : Nat → Nat} {n : Nat} {ι : Map} {v0 v v' : Value} (m : Mv0 ρ n v0 v) (h : V0 ι v v') : V0 (mvM ρ n ι) v0 v' := by
  cases m with
  | int k z => cases h; exact .int k z
  | bool b => cases h; exact .bool b
  | nilSl a c => cases h; exact .nilSl a c
  | sl o a c hB =>
    cases h with
    | sl h1 h2 => exact .sl (by simp only [mvM, hB, if_true]; exact h1) h2
    | sl0 h1 => exact .sl0 (by simp only [mvM, hB, if_true]; exact h1)
theorem Mv0.vc {ρ : Nat → Nat} {n : Nat} {ι : Map} {v0 v v' : Value} (m : Mv0 ρ n v0 v) (h : VC ι v v') : VC (mvM ρ n ι) v0 v' := by
  cases h with
  | v0 h => exact .v0 (m.vr h)
  | fn => cases m
theorem mv_cells {ρ : Nat → Nat} {n : Nat} {ι : Map} : ∀ {a b c : List Value}, F2 (Mv0 ρ n) a b → F2 (VC ι) b c → F2 (VC (mvM ρ n ι)) a c
  | _, _, _, .nil, .nil => .nil
  | _, _, _, .cons h r, .cons h' r' => .cons (h.vc h') (mv_cells r r')
theorem Mv.vr {ρ : Nat → Nat} {n : Nat} {ι : Map} {v0 v v' : Value} (m : Mv ρ n v0 v) (h : VR ι v v') : VR (mvM ρ n ι) v0 v' := by
  cases m with
  | v0 m =>
    cases h with
    | va h => cases h with
      | vc h => exact .va (.vc (m.vc h))
      | agg h => cases m
    | tup => cases m
  | agg m =>
    cases h with
    | va h => cases h with
      | vc h => cases h with
        | v0 h => cases h
      | agg h => exact .va (.agg (mv_cells m h))
theorem mv_args {ρ : Nat → Nat} {n : Nat} {ι : Map} : ∀ {a b c : List Value}, F2 (Mv ρ n) a b → F2 (VR ι) b c → F2 (VR (mvM ρ n ι)) a c
  | _, _, _, .nil, .nil => .nil
  | _, _, _, .cons h r, .cons h' r' => .cons (h.vr h') (mv_args r r')

theorem flat_vc {ι ι' : Map} {v v' : Value} (h : VC ι v v') (hb : belowC 0 v = true) : VC ι' v v' :=
  (h.cut hb).mono (by intro B l e; simp [cutM] at e)
theorem flat_cells {ι ι' : Map} : ∀ {a b : List Value}, F2 (VC ι) a b → a.all (belowC 0) = true → F2 (VC ι') a b
  | _, _, .nil, _ => .nil
  | _, _, .cons h r, hb => by
    simp only [List.all_cons, Bool.and_eq_true] at hb
    exact .cons (flat_vc h hb.1) (flat_cells r hb.2)

structure Emb (ρ : Nat → Nat) (h0 h : Heap) : Prop where
  at_ : ∀ B, B < h0.length → ∃ blk, h0[B]? = some (some blk) ∧ h[ρ B]? = some (some blk) ∧ flatC blk = true
  inj : ∀ B B', B < h0.length → B' < h0.length → ρ B = ρ B' → B = B'

theorem Emb.hr {ρ : Nat → Nat} {h0 h : Heap} (E : Emb ρ h0 h) {ι : Map} {w : World} (H : HR ι h w) : HR (mvM ρ h0.length ι) h0 w where
  dom := fun B l e => by
    unfold mvM at e
    split at e
    · assumption
    · cases e
  live := fun B blk hB => by
    have hlt : B < h0.length := (List.getElem?_eq_some_iff.1 hB).1
    obtain ⟨blk', e1, e2, fl⟩ := E.at_ B hlt
    rw [hB] at e1
    cases e1
    obtain ⟨l, q1, q2, q3, q4, q5, c, e, f, q6, q7, q8, q9⟩ := H.live _ _ e2
    exact ⟨l, by simp only [mvM, hlt, if_true]; exact q1, q2, q3, q4, q5, c, e, f, q6, q7, q8, flat_cells q9 fl⟩
  apart := fun B1 B2 b1 b2 l1 l2 h1 h2 hne hk i1 i2 => by
    have lt1 : B1 < h0.length := (List.getElem?_eq_some_iff.1 h1).1
    have lt2 : B2 < h0.length := (List.getElem?_eq_some_iff.1 h2).1
    obtain ⟨c1, e1, f1, _⟩ := E.at_ B1 lt1
    obtain ⟨c2, e2, f2, _⟩ := E.at_ B2 lt2
    rw [h1] at e1; cases e1
    rw [h2] at e2; cases e2
    simp only [mvM, lt1, lt2, if_true] at i1 i2
    exact H.apart _ _ _ _ _ _ f1 f2 (fun q => hne (E.inj _ _ lt1 lt2 q)) hk i1 i2

/-- The greater heap stays. -/
theorem Emb.stays {ρ : Nat → Nat} {h0 h h0' : Heap} (E : Emb ρ h0 h) {ι ι' : Map} {w w' : World} (H : HR ι h w) (H' : HR ι' h0' w') (X : Ext (mvM ρ h0.length ι) h0 w ι' h0' w') (hp : ∀ B, B < h0.length → h0'[B]? = h0[B]?) :
    HR ι h w' ∧ Ext ι h w ι h w' := by
  have frame : ∀ b, b < w.heap.size → (∀ B blk l, h[B]? = some (some blk) → blk.kind ≠ .ro → ι B = some l → (∃ B0, B0 < h0.length ∧ ρ B0 = B) → l.b ≠ b) → w'.heap[b]? = w.heap[b]? := fun b hb hk => by
    refine X.frame b hb fun B blk l e1 e2 e3 => ?_
    have hlt : B < h0.length := (List.getElem?_eq_some_iff.1 e1).1
    obtain ⟨blk', f1, f2, _⟩ := E.at_ B hlt
    rw [e1] at f1; cases f1
    simp only [mvM, hlt, if_true] at e3
    exact hk _ _ _ f2 e2 e3 ⟨B, hlt, rfl⟩
  constructor
  · constructor
    · exact H.dom
    · intro B blk hB
      by_cases him : ∃ B0, B0 < h0.length ∧ ρ B0 = B
      · obtain ⟨B0, hlt, rfl⟩ := him
        obtain ⟨blk', f1, f2, fl⟩ := E.at_ B0 hlt
        rw [hB] at f2; cases f2
        obtain ⟨l, q1, q2, q3, q4, q5, c, e, f, q6, q7, q8, q9⟩ := H'.live B0 blk (by rw [hp B0 hlt, f1])
        obtain ⟨l0, z1, _⟩ := H.live _ _ hB
        have z2 := X.sub B0 l0 (by simp only [mvM, hlt, if_true]; exact z1)
        rw [z2] at q1; cases q1
        exact ⟨_, z1, q2, q3, q4, q5, c, e, f, q6, q7, q8, flat_cells q9 fl⟩
      · obtain ⟨l, q1, q2, q3, q4, q5, c, e, f, q6, q7, q8, q9⟩ := H.live _ _ hB
        have hlt : l.b < w.heap.size := (Array.getElem?_eq_some_iff.1 q6).1
        have hsame := frame l.b hlt fun B' blk' l' g1 g2 g3 g4 => by
          have hne : B' ≠ B := fun q => him (q ▸ g4)
          exact H.apart _ _ _ _ _ _ g1 hB hne g2 g3 q1
        exact ⟨l, q1, q2, q3, q4, q5, c, e, f, by rw [hsame]; exact q6, q7, q8, q9⟩
    · exact H.apart
  · exact ⟨Sub.refl ι, X.size, fun b hb hk => frame b hb fun B blk l e1 e2 e3 _ => hk B blk l e1 e2 e3, fun B blk l h1 h2 h3 => .inr ⟨B, blk, l, h1, h2, h3, rfl⟩, X.os, X.tape, X.output, fun B blk l h1 h3 => .inr ⟨B, blk, l, h1, h3, rfl⟩⟩

/-- A call that answers with a plain value, and leaves the small heap as it was. -/
theorem Sim.move {f : FuncId} {ρ : Nat → Nat} {args0 args : List Value} {h0 h : Heap} {R : Value → Prop} (s : Sim P f args0 h0 fun v h' => R v ∧ ∀ B, B < h0.length → h'[B]? = h0[B]?) (hm : F2 (Mv ρ h0.length) args0 args) (E : Emb ρ h0 h)
    (hR : ∀ v, R v → belowV 0 v = true) : Sim P f args h fun v h' => R v ∧ h' = h := by
  refine ⟨s.1, fun ι w args' hA H => (s.2 _ w args' (mv_args hm hA) (E.hr H)).mono fun e w' ⟨v, v', h', ι', ⟨r1, rp⟩, r2, r3, r4, r5⟩ => ?_⟩
  obtain ⟨a, b⟩ := E.stays H r4 r5 rp
  exact ⟨v, v', h, ι, ⟨r1, rfl⟩, r2, (r3.cut (hR v r1)).mono (by intro B l e; simp [cutM] at e), a, b⟩

/-- A call that answers with a new list. -/
theorem Sim.moveList {f : FuncId} {ρ : Nat → Nat} {args0 args : List Value} {h0 h : Heap} {n c : Nat} {blk : Blk} (s : Sim P f args0 h0 fun v h' => (∃ B, v = .slice (some ⟨B, 0, none⟩) n c ∧ h0.length ≤ B ∧ h'[B]? = some (some blk)) ∧ ∀ B, B < h0.length → h'[B]? = h0[B]?)
    (hm : F2 (Mv ρ h0.length) args0 args) (E : Emb ρ h0 h) (fl : flatC blk = true) (hk : blk.kind ≠ .ro) : Sim P f args h fun v h' => v = .slice (some ⟨h.length, 0, none⟩) n c ∧ h' = h ++ [some blk] := by
  refine ⟨s.1, fun ι w args' hA H => (s.2 _ w args' (mv_args hm hA) (E.hr H)).mono fun e w' ⟨v, v', h', ι', ⟨⟨Bn, rv, rB, rb⟩, rp⟩, r2, r3, r4, r5⟩ => ?_⟩
  subst rv
  obtain ⟨a, b⟩ := E.stays H r4 r5 rp
  obtain ⟨l, q1, q2, q3, q4, q5, c', e', f', q6, q7, q8, q9⟩ := r4.live _ _ rb
  let ι2 : Map := fun B => if B = h.length then ι' Bn else ι B
  have new : ι2 h.length = some l := by simp only [ι2, if_true]; exact q1
  have old : ∀ B, B ≠ h.length → ι2 B = ι B := fun B hB => by simp only [ι2, hB, if_false]
  have sub : Sub ι ι2 := fun B l e => by
    have := H.dom B l e
    rw [old B (by omega)]; exact e
  have hin : ∀ B blk0, (h ++ [some blk])[B]? = some (some blk0) → (B < h.length ∧ h[B]? = some (some blk0)) ∨ (B = h.length ∧ blk0 = blk) := fun B blk0 e => by
    rcases Nat.lt_trichotomy B h.length with q | q | q
    · left; rw [List.getElem?_append_left q] at e; exact ⟨q, e⟩
    · right; subst q; simp at e; exact ⟨rfl, e.symm⟩
    · rw [List.getElem?_eq_none (by simp; omega)] at e; cases e
  -- where the new list lies
  have far : ∀ B blk2 l2, h[B]? = some (some blk2) → ι B = some l2 → l.b ≠ l2.b := fun B blk2 l2 e1 e2 q => by
    have lt2 : l2.b < w.heap.size := by
      obtain ⟨l3, z1, _, _, _, _, c3, e3, f3, z6, _⟩ := H.live _ _ e1
      rw [e2] at z1; cases z1
      exact (Array.getElem?_eq_some_iff.1 z6).1
    rcases r5.imgR Bn blk l rb q1 with z | ⟨B0, blk0, l0, g1, g2, g3⟩
    · omega
    · have hlt : B0 < h0.length := (List.getElem?_eq_some_iff.1 g1).1
      exact r4.apart Bn B0 blk blk0 l l0 rb (by rw [rp B0 hlt, g1]) (by omega) hk q1 (r5.sub _ _ g2) g3.symm
  refine ⟨_, v', h ++ [some blk], ι2, ⟨rfl, rfl⟩, r2, ?_, ?_, ?_⟩
  · cases r3 with
    | va r3 => cases r3 with
      | vc r3 => cases r3 with
        | v0 r3 => cases r3 with
          | sl g1 g2 =>
            rw [q1] at g1; cases g1
            exact .v0 (.sl new g2)
          | sl0 g1 =>
            exact .v0 (.sl0 new)
  · constructor
    · intro B l' e
      by_cases hB : B = h.length
      · simp [hB]
      · rw [old B hB] at e
        have := H.dom B l' e
        simp; omega
    · intro B blk0 e
      rcases hin B blk0 e with ⟨hlt, e⟩ | ⟨rfl, rfl⟩
      · obtain ⟨l', z1, z2, z3, z4, z5, c3, e3, f3, z6, z7, z8, z9⟩ := a.live _ _ e
        exact ⟨l', sub _ _ z1, z2, z3, z4, z5, c3, e3, f3, z6, z7, z8, z9.mono fun _ _ k => k.mono sub⟩
      · exact ⟨l, new, q2, q3, q4, q5, c', e', f', q6, q7, q8, flat_cells q9 fl⟩
    · intro B1 B2 b1 b2 l1 l2 e1 e2 hne hk1 i1 i2
      rcases hin B1 b1 e1 with ⟨lt1, g1⟩ | ⟨y1, y2⟩ <;> rcases hin B2 b2 e2 with ⟨lt2, g2⟩ | ⟨y3, y4⟩
      · rw [old B1 (by omega)] at i1
        rw [old B2 (by omega)] at i2
        exact H.apart _ _ _ _ _ _ g1 g2 hne hk1 i1 i2
      · rw [old B1 (by omega)] at i1
        rw [y3, new] at i2; cases i2
        exact (far _ _ _ g1 i1).symm
      · rw [old B2 (by omega)] at i2
        rw [y1, new] at i1; cases i1
        exact far _ _ _ g2 i2
      · exact absurd (y1.trans y3.symm) hne
  · refine ⟨sub, r5.size, b.frame, ?_, r5.os, r5.tape, r5.output, ?_⟩
    · intro B blk0 l' e hk' i
      rcases hin B blk0 e with ⟨hlt, e⟩ | ⟨rfl, rfl⟩
      · rw [old B (by omega)] at i
        exact .inr ⟨B, blk0, l', e, hk', i, rfl⟩
      · rw [new] at i; cases i
        rcases r5.imgR Bn blk0 l rb q1 with z | ⟨B0, blk1, l0, g1, g2, g3⟩
        · exact .inl z
        · have hlt : B0 < h0.length := (List.getElem?_eq_some_iff.1 g1).1
          exact absurd g3.symm (r4.apart Bn B0 blk0 blk1 l l0 rb (by rw [rp B0 hlt, g1]) (by omega) hk' q1 (r5.sub _ _ g2))
    · intro B blk0 l' e i
      rcases hin B blk0 e with ⟨hlt, e⟩ | ⟨rfl, rfl⟩
      · rw [old B (by omega)] at i
        exact .inr ⟨B, blk0, l', e, i, rfl⟩
      · rw [new] at i; cases i
        rcases r5.imgR Bn blk0 l rb q1 with z | ⟨B0, blk1, l0, g1, g2, g3⟩
        · exact .inl z
        · have hlt : B0 < h0.length := (List.getElem?_eq_some_iff.1 g1).1
          obtain ⟨blk', f1, f2, _⟩ := E.at_ B0 hlt
          rw [g1] at f1; cases f1
          exact .inr ⟨ρ B0, _, l0, f2, by simp only [mvM, hlt, if_true] at g2; exact g2, g3⟩


/-! ### A call's own blocks, let go, at any heap -/
theorem V0.under {ι : Map} {n : Nat} (hd : ∀ B l, ι B = some l → B < n) {v v' : Value} (h : V0 ι v v') : below0 n v = true := by
  cases h with
  | ptr h => simpa [below0] using hd _ _ h
  | sl h _ => simpa [below0] using hd _ _ h
  | sl0 h => simpa [below0] using hd _ _ h
  | _ => rfl
theorem V0s.under {ι : Map} {n : Nat} (hd : ∀ B l, ι B = some l → B < n) : ∀ {a b : List Value}, F2 (V0 ι) a b → a.all (below0 n) = true
  | _, _, .nil => rfl
  | _, _, .cons h r => by simp only [List.all_cons, Bool.and_eq_true]; exact ⟨h.under hd, V0s.under hd r⟩
theorem VC.under {ι : Map} {n : Nat} (hd : ∀ B l, ι B = some l → B < n) {v v' : Value} (h : VC ι v v') : belowC n v = true := by
  cases h with
  | v0 h =>
    have := h.under hd
    cases h <;> exact this
  | fn f h1 h2 => simp only [belowC, Bool.and_eq_true]; exact ⟨V0s.under hd h1, V0s.under hd h2⟩
theorem VCs.under {ι : Map} {n : Nat} (hd : ∀ B l, ι B = some l → B < n) : ∀ {a b : List Value}, F2 (VC ι) a b → a.all (belowC n) = true
  | _, _, .nil => rfl
  | _, _, .cons h r => by simp only [List.all_cons, Bool.and_eq_true]; exact ⟨h.under hd, VCs.under hd r⟩
theorem HR.below {ι : Map} {h : Heap} {w : World} (H : HR ι h w) : h.all (belowB h.length) = true := by
  rw [List.all_eq_true]
  intro b hb
  obtain ⟨B, hB⟩ := List.mem_iff_getElem?.1 hb
  cases b with
  | none => rfl
  | some blk =>
    obtain ⟨l, q1, q2, q3, q4, q5, c, e, f, q6, q7, q8, q9⟩ := H.live B blk hB
    exact VCs.under H.dom q9
theorem belowA_up {n : Nat} {v : Value} (h : belowA 0 v = true) : belowA n v = true := by
  cases v with
  | agg a =>
    simp only [belowA, List.all_eq_true] at h ⊢
    exact fun x hx => belowC_of (h x hx)
  | _ => simp only [belowA] at h ⊢; exact belowC_of h
theorem belowV_up {n : Nat} {v : Value} (h : belowV 0 v = true) : belowV n v = true := by
  cases v with
  | tuple a =>
    simp only [belowV, List.all_eq_true] at h ⊢
    exact fun x hx => belowA_up (h x hx)
  | _ => simp only [belowV] at h ⊢; exact belowA_up h
theorem Sim.keep {f : FuncId} {args : List Value} {h : Heap} {R : Value → Prop} (s : Sim P f args h fun v h' => R v ∧ h.length ≤ h'.length ∧ h'.take h.length = h) (hR : ∀ v, R v → belowV 0 v = true) : Sim P f args h fun v h' => R v ∧ h' = h := by
  by_cases hb : h.all (belowB h.length) = true
  · refine s.cut fun v h' ⟨r, hl, ht⟩ => ⟨hl, ?_, by rw [ht]; exact hb, r, ht⟩
    exact belowV_up (hR v r)
  · exact ⟨s.1, fun ι w args' hA H => absurd H.below hb⟩

theorem Sim.last {f : FuncId} {args : List Value} {h : Heap} {n c : Nat} {blk : Blk} (s : Sim P f args h fun v h' => (∃ B, v = .slice (some ⟨B, 0, none⟩) n c ∧ h.length ≤ B ∧ h'[B]? = some (some blk)) ∧ h'.take h.length = h)
    (fl : flatC blk = true) (hk : blk.kind ≠ .ro) : Sim P f args h fun v h' => v = .slice (some ⟨h.length, 0, none⟩) n c ∧ h' = h ++ [some blk] := by
  refine ⟨s.1, fun ι w args' hA H => (s.2 ι w args' hA H).mono fun e w' ⟨v, v', h', ι', ⟨⟨Bn, rv, rB, rb⟩, rt⟩, r2, r3, r4, r5⟩ => ?_⟩
  subst rv
  have hlen : h.length ≤ h'.length := by
    have := (List.getElem?_eq_some_iff.1 rb).1
    omega
  have rp : ∀ B, B < h.length → h'[B]? = h[B]? := fun B hB => by
    have : (h'.take h.length)[B]? = h'[B]? := by rw [List.getElem?_take]; simp [hB]
    rw [← this, rt]
  have a0 := r4.cut h.length hlen (by rw [rt]; exact H.below)
  have b0 := r5.cut H
  rw [rt] at a0 b0
  obtain ⟨ι1, hι1⟩ : ∃ ι1, ι1 = cutM ι' h.length := ⟨_, rfl⟩
  rw [← hι1] at a0 b0
  have sub1 : Sub ι1 ι' := by rw [hι1]; intro B l e; unfold cutM at e; split at e; exact e; cases e
  obtain ⟨l, q1, q2, q3, q4, q5, c', e', f', q6, q7, q8, q9⟩ := r4.live _ _ rb
  let ι2 : Map := fun B => if B = h.length then ι' Bn else ι1 B
  have new : ι2 h.length = some l := by simp only [ι2, if_true]; exact q1
  have old : ∀ B, B ≠ h.length → ι2 B = ι1 B := fun B hB => by simp only [ι2, hB, if_false]
  have sub : Sub ι1 ι2 := fun B l e => by
    have := a0.dom B l e
    rw [old B (by omega)]; exact e
  have hin : ∀ B blk0, (h ++ [some blk])[B]? = some (some blk0) → (B < h.length ∧ h[B]? = some (some blk0)) ∨ (B = h.length ∧ blk0 = blk) := fun B blk0 e => by
    rcases Nat.lt_trichotomy B h.length with q | q | q
    · left; rw [List.getElem?_append_left q] at e; exact ⟨q, e⟩
    · right; subst q; simp at e; exact ⟨rfl, e.symm⟩
    · rw [List.getElem?_eq_none (by simp; omega)] at e; cases e
  have far : ∀ B blk2 l2, h[B]? = some (some blk2) → ι1 B = some l2 → l.b ≠ l2.b := fun B blk2 l2 e1 e2 => by
    have hlt : B < h.length := (List.getElem?_eq_some_iff.1 e1).1
    exact r4.apart Bn B blk blk2 l l2 rb (by rw [rp B hlt, e1]) (by omega) hk q1 (sub1 _ _ e2)
  refine ⟨_, v', h ++ [some blk], ι2, ⟨rfl, rfl⟩, r2, ?_, ?_, ?_⟩
  · cases r3 with
    | va r3 => cases r3 with
      | vc r3 => cases r3 with
        | v0 r3 => cases r3 with
          | sl g1 g2 =>
            rw [q1] at g1; cases g1
            exact .v0 (.sl new g2)
          | sl0 g1 =>
            exact .v0 (.sl0 new)
  · constructor
    · intro B l' e
      by_cases hB : B = h.length
      · simp [hB]
      · rw [old B hB] at e
        have := a0.dom B l' e
        simp; omega
    · intro B blk0 e
      rcases hin B blk0 e with ⟨hlt, e⟩ | ⟨rfl, rfl⟩
      · obtain ⟨l', z1, z2, z3, z4, z5, c3, e3, f3, z6, z7, z8, z9⟩ := a0.live _ _ e
        exact ⟨l', sub _ _ z1, z2, z3, z4, z5, c3, e3, f3, z6, z7, z8, z9.mono fun _ _ k => k.mono sub⟩
      · exact ⟨l, new, q2, q3, q4, q5, c', e', f', q6, q7, q8, flat_cells q9 fl⟩
    · intro B1 B2 b1 b2 l1 l2 e1 e2 hne hk1 i1 i2
      rcases hin B1 b1 e1 with ⟨lt1, g1⟩ | ⟨y1, y2⟩ <;> rcases hin B2 b2 e2 with ⟨lt2, g2⟩ | ⟨y3, y4⟩
      · rw [old B1 (by omega)] at i1
        rw [old B2 (by omega)] at i2
        exact a0.apart _ _ _ _ _ _ g1 g2 hne hk1 i1 i2
      · rw [old B1 (by omega)] at i1
        rw [y3, new] at i2; cases i2
        exact (far _ _ _ g1 i1).symm
      · rw [old B2 (by omega)] at i2
        rw [y1, new] at i1; cases i1
        exact far _ _ _ g2 i2
      · exact absurd (y1.trans y3.symm) hne
  · refine ⟨fun B l e => sub _ _ (b0.sub _ _ e), r5.size, b0.frame, ?_, r5.os, r5.tape, r5.output, ?_⟩
    · intro B blk0 l' e hk' i
      rcases hin B blk0 e with ⟨hlt, e⟩ | ⟨rfl, rfl⟩
      · rw [old B (by omega)] at i
        exact b0.imgs B blk0 l' e hk' i
      · rw [new] at i; cases i
        exact r5.imgs Bn blk0 l rb hk' q1
    · intro B blk0 l' e i
      rcases hin B blk0 e with ⟨hlt, e⟩ | ⟨rfl, rfl⟩
      · rw [old B (by omega)] at i
        exact b0.imgR B blk0 l' e i
      · rw [new] at i; cases i
        exact r5.imgR Bn blk0 l rb q1

theorem Wp.exact {Γ : Env} {lv : Lv} {x : IL} {t : Fr} {h : Heap} {K : Post2} (w : Wp Γ lv x t h K) : ∃ e s h', K e s h' ∧ Wp Γ lv x t h fun e1 s1 h1 => e1 = e ∧ s1 = s ∧ h1 = h' := by
  obtain ⟨n, e, t', h', s, a, b, k⟩ := w
  exact ⟨e, s, h', k, n, e, t', h', s, a, b, rfl, rfl, rfl⟩
/-- A function's end, without letting go. -/
theorem wp_sim' {P : Program} {qt : List Nat} (hm : P.follows .mixedOrders = true) {Γ : Env} (hΓ : EnvOk P Γ) (hq : QuietEnv qt Γ) {f : Nat} {F : FnIL} (hf : stF P qt f = some F) {args : List Value} {h : Heap}
    {Q : Value → Heap → Prop} (e : Wp Γ (resLv F.res) F.body (args ++ List.replicate (F.ntmps - args.length) undef) h fun e s h' => (e = .normal ∨ e = .ret) ∧ ∃ v, resA s h' F.res = some v ∧ Q v h') : Sim P f args h Q := by
  obtain ⟨n, ex, t', h', s, h1, a1, hne, v, hv, hQ⟩ := e
  have hres : resA s h' F.res = resA t' h' F.res := by
    simp only [resA, resAs_ag a1 F.res fun i q => q]
  rw [hres] at hv
  have base : Sim P f args h fun v1 h2 => v1 = v ∧ h2 = h' := fn_sim hf (execF_sim hm hΓ hq n F.body _ h ex t' h' _ h1 ⟨by rcases hne with rfl | rfl <;> simp [Ex.ex], v, hv, rfl, rfl⟩)
  exact base.mono fun v1 h2 ⟨q1, q2⟩ => by subst q1; subst q2; exact hQ

end Go.Am
