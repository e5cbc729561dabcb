/-
  Lists that begin as a literal and grow.
-/
import Derived.Test.YtgdojnamjkhknaaQdLnA
namespace Go.Am
set_option linter.all false
theorem LsS.ahead {w : Nat} {H A J : Heap} {l : Value} {rows : List (List Value)} (a : LsS w (H ++ A) J l rows) : LsS w H (A ++ J) l rows := by
 rcases a with a | ⟨j, a1, a2, a4⟩ | ⟨j, a1, a2, a3, a4⟩
 ·exact .inl a
 ·refine .inr (.inl ⟨A.length + j, a1, ?_, ?_⟩)
  ·rw [a2, List.length_append, Nat.add_assoc]
  ·rw [List.getElem?_append_right (by omega), Nat.add_sub_cancel_left]; exact a4
 ·refine .inr (.inr ⟨A.length + j, ?_, a2, a3, ?_⟩)
  ·rw [a1, List.length_append, Nat.add_assoc]
  ·rw [List.getElem?_append_right (by omega), Nat.add_sub_cancel_left]; exact a4
def LsL (w : Nat) (H J : Heap) (l : Value) (rows : List (List Value)) : Prop := LsS w H J l rows ∨ ∃ j, l = .slice (some ⟨H.length + j, 0, none⟩) rows.length rows.length ∧ rows ≠ [] ∧ (∀ r ∈ rows, r.length = w) ∧ J[j]? = some (some ⟨.fix, rows.flatten⟩)
theorem LsL.rows {w : Nat} {H J : Heap} {l : Value} {rows : List (List Value)} (hp : 0 < w) (a : LsL w H J l rows) (R : Heap) : RowsW w (H ++ (J ++ R)) l rows := by
 rcases a with a | ⟨j, rfl, a2, a3, a4⟩
 ·exact a.rows hp R
 ·have hw := flat_len a3
  refine .inr ⟨_, 0, _, ⟨.fix, rows.flatten⟩, rfl, Nat.le_refl _, rd_mid a4, fun e q => (by cases q), by simp [hw], fun i r e => ?_⟩
  have hg := (LsS.rows (H := []) (J := [some ⟨.grown w, rows.flatten⟩]) (l := .slice (some ⟨0, 0, none⟩) rows.length rows.length) (rows := rows) hp (.inr (.inr ⟨0, by simp, a2, a3, by simp⟩)) [])
  rcases hg with ⟨q, _⟩ | ⟨B, o, c, blk, q1, q2, q3, q4, q5, q6⟩
  ·cases q
  ·simp only [Value.slice.injEq, Option.some.injEq, Addr.mk.injEq] at q1
   obtain ⟨⟨rfl, rfl, _⟩, _, _⟩ := q1
   simp only [rd, List.nil_append, List.append_nil, List.getElem?_cons_zero, Option.some.injEq] at q3
   cases q3
   exact q6 i r e
theorem LsL.app {w eby : Nat} {H J R : Heap} {l x : Value} {rows new : List (List Value)} (a : LsL w H J l rows) (hx : srcA (H ++ (J ++ R)) w x = some (new.length, new.flatten)) (hw : ∀ r ∈ new, r.length = w) (hp : 0 < w) (hne : new ≠ [])
  (hb : (rows.length + new.length) * eby ≤ 1099511627776) (hc : rows.length + new.length ≤ 1099511627776) :
  ∃ (v : Value) (J2 X : Heap), J2.length = J.length ∧ (∀ Γ, opA Γ (.append w eby (.const l) (.const x)) [] (H ++ (J ++ R)) = some (v, H ++ (J2 ++ (R ++ X)))) ∧ LsS w H (J2 ++ (R ++ X)) v (rows ++ new) := by
 rcases a with a | ⟨j, rfl, a2, a3, a4⟩
 ·exact a.app hx hw hp hb hc
 ·have hn : ¬ new.length = 0 := fun q => hne (List.length_eq_zero_iff.1 q)
  have hfl := flat_len a3
  have hread : readN (H ++ (J ++ R)) ⟨H.length + j, 0, none⟩ (rows.length * w) = some rows.flatten := by
   simp only [readN, rd_mid a4, Nat.zero_add, hfl, Nat.le_refl, if_true, List.drop_zero]
   rw [← hfl, List.take_length]
  have hend : isEnd (H ++ (J ++ R)) w ⟨H.length + j, 0, none⟩ rows.length = some false := by
   simp only [isEnd, rd_mid a4]
  have hlt : ¬ (rows.length + new.length ≤ rows.length) := by omega
  have hw2 : ∀ r ∈ rows ++ new, r.length = w := fun r hr => by
   rcases List.mem_append.1 hr with q | q
   ·exact a3 r q
   ·exact hw r q
  refine ⟨.slice (some ⟨H.length + (J.length + R.length), 0, none⟩) (rows.length + new.length) (rows.length + new.length), J, [some ⟨.grown w, (rows ++ new).flatten⟩], rfl, fun Γ => ?_, ?_⟩
  ·simp only [opA, ev, appA, hx, hn, if_false, hlt, hp, hb, hc, and_self, if_true, hread, hend, List.length_append, List.append_assoc, List.flatten_append]
   simp
  ·have := LsS.made (H := H) (J2 := J) (R := R) hw2 (by simp [hne]) (n := rows.length + new.length) (j := J.length + R.length) (by simp) rfl []
   simpa using this
theorem lit_app {w eby : Nat} {H J R : Heap} {x : Value} {rows new : List (List Value)} {j : Nat} (a3 : ∀ r ∈ rows, r.length = w) (a4 : J[j]? = some (some ⟨.fix, rows.flatten⟩)) (hx : srcA (H ++ (J ++ R)) w x = some (new.length, new.flatten)) (hw : ∀ r ∈ new, r.length = w) (hp : 0 < w) (hne : new ≠ [])
  (hb : (rows.length + new.length) * eby ≤ 1099511627776) (hc : rows.length + new.length ≤ 1099511627776) :
  ∃ (v : Value) (X : Heap), (∀ Γ, opA Γ (.append w eby (.const (.slice (some ⟨H.length + j, 0, none⟩) rows.length rows.length)) (.const x)) [] (H ++ (J ++ R)) = some (v, H ++ (J ++ (R ++ X)))) ∧ LsS w H (J ++ (R ++ X)) v (rows ++ new) := by
 have hn : ¬ new.length = 0 := fun q => hne (List.length_eq_zero_iff.1 q)
 have hfl := flat_len a3
 have hread : readN (H ++ (J ++ R)) ⟨H.length + j, 0, none⟩ (rows.length * w) = some rows.flatten := by
  simp only [readN, rd_mid a4, Nat.zero_add, hfl, Nat.le_refl, if_true, List.drop_zero]
  rw [← hfl, List.take_length]
 have hend : isEnd (H ++ (J ++ R)) w ⟨H.length + j, 0, none⟩ rows.length = some false := by
  simp only [isEnd, rd_mid a4]
 have hlt : ¬ (rows.length + new.length ≤ rows.length) := by omega
 have hw2 : ∀ r ∈ rows ++ new, r.length = w := fun r hr => by
  rcases List.mem_append.1 hr with q | q
  ·exact a3 r q
  ·exact hw r q
 refine ⟨.slice (some ⟨H.length + (J.length + R.length), 0, none⟩) (rows.length + new.length) (rows.length + new.length), [some ⟨.grown w, (rows ++ new).flatten⟩], fun Γ => ?_, ?_⟩
 ·simp only [opA, ev, appA, hx, hn, if_false, hlt, hp, hb, hc, and_self, if_true, hread, hend, List.length_append, List.append_assoc, List.flatten_append]
  simp
 ·have := LsS.made (H := H) (J2 := J) (R := R) hw2 (by simp [hne]) (n := rows.length + new.length) (j := J.length + R.length) (by simp) rfl []
  simpa using this
theorem appLit2 {I : SH} (hI : I.all (It.bnd I.length) = true) {w eby n1 n2 : Nat} {r1 r2 : List (List Value)} {cs1 cs2 : List SV} (h1 : ∀ f, cs1.map (den0 f) = r1.flatten) (h2 : ∀ f, cs2.map (den0 f) = r2.flatten) (w1 : ∀ r ∈ r1, r.length = w) (w2 : ∀ r ∈ r2, r.length = w) (e1 : r1.length = n1) (e2 : r2.length = n2) (hp : 0 < w) (hne : r2 ≠ [])
  (hb : (n1 + n2) * eby ≤ 1099511627776) (hc : n1 + n2 ≤ 1099511627776) :
  ∃ (a : Option Addr) (c : Nat) (X : Heap), (∀ Γ, opA Γ (.append w eby (.const (denV (ofs (I ++ [.blk .fix cs1, .blk .fix cs2])) (.sl I.length 0 n1 n1))) (.const (denV (ofs (I ++ [.blk .fix cs1, .blk .fix cs2])) (.sl (I.length + 1) 0 n2 n2)))) [] (denH (I ++ [.blk .fix cs1, .blk .fix cs2])) = some (.slice a (n1 + n2) c, denH (I ++ [.blk .fix cs1, .blk .fix cs2, .seg X]))) ∧
   LsS w (denH I) (some ⟨.fix, r1.flatten⟩ :: some ⟨.fix, r2.flatten⟩ :: X) (.slice a (n1 + n2) c) (r1 ++ r2) := by
 subst e1 e2
 have q1 : denH (I ++ [.blk .fix cs1, .blk .fix cs2]) = denH I ++ ([some ⟨.fix, r1.flatten⟩] ++ [some ⟨.fix, r2.flatten⟩]) := by rw [denH_app hI]; simp [denL, It.den, h1, h2]
 have q2 : denV (ofs (I ++ [.blk .fix cs1, .blk .fix cs2])) (.sl I.length 0 r1.length r1.length) = .slice (some ⟨(denH I).length + 0, 0, none⟩) r1.length r1.length := by
  simp only [denV, denA, den0, off_app _ _ _ (Nat.le_refl _), denH_len, Nat.add_zero]
 have hx : srcA (denH (I ++ [.blk .fix cs1, .blk .fix cs2])) w (denV (ofs (I ++ [.blk .fix cs1, .blk .fix cs2])) (.sl (I.length + 1) 0 r2.length r2.length)) = some (r2.length, r2.flatten) := by
  have hg : (I ++ [.blk .fix cs1, .blk .fix cs2])[I.length + 1]? = some (.blk .fix cs2) := by
   rw [List.getElem?_append_right (by omega), Nat.add_sub_cancel_left]; rfl
  have hfl := flat_len w2
  have hcl : cs2.length = r2.length * w := by have := congrArg List.length (h2 fun _ => 0); rw [List.length_map, hfl] at this; exact this
  have := src_item (I := I ++ [.blk .fix cs1, .blk .fix cs2]) (k := I.length + 1) (o := 0) (n := r2.length) (c := r2.length) (w := w) hg (by omega)
  rw [this, h2, List.drop_zero, ← hfl, List.take_length]
 rw [q1] at hx
 obtain ⟨v, X, g1, g2⟩ := lit_app (eby := eby) (H := denH I) (J := [some ⟨.fix, r1.flatten⟩]) (R := [some ⟨.fix, r2.flatten⟩]) (j := 0) w1 rfl hx w2 hp hne hb hc
 obtain ⟨a, c, rfl⟩ := g2.slc
 rw [List.length_append] at g1 g2
 refine ⟨a, c, X, fun Γ => ?_, by simpa using g2⟩
 rw [q2, q1, g1 Γ, denH_app hI]
 simp [denL, It.den, h1, h2]
theorem cut3 {J : Heap} {a c : Nat} (h : a + (1 + c) ≤ J.length) : ∃ (Ja : Heap) (b : Option Blk) (Xa Y : Heap), J = Ja ++ b :: (Xa ++ Y) ∧ Ja.length = a ∧ Xa.length = c := by
 have h1 : a < J.length := by omega
 refine ⟨J.take a, J[a], (J.drop (a + 1)).take c, (J.drop (a + 1)).drop c, ?_, by simp; omega, by simp; omega⟩
 rw [List.take_append_drop, ← List.drop_eq_getElem_cons h1, List.take_append_drop]
theorem appLit {I R : SH} {R0 : Heap} (hI : I.all (It.bnd I.length) = true) (hR : ∀ f, denL f R = R0) {w eby n : Nat} {J : Heap} {l : Value} {rows new : List (List Value)} {cs : List SV} (hl : LsL w (denH I) J l rows) (hcs : ∀ f, cs.map (den0 f) = new.flatten) (hw : ∀ r ∈ new, r.length = w) (hn : new.length = n) (hne : new ≠ []) (hp : 0 < w)
  (hb : (rows.length + n) * eby ≤ 1099511627776) (hc : rows.length + n ≤ 1099511627776) :
  ∃ (a : Option Addr) (c : Nat) (J2 X : Heap), J2.length = J.length ∧ (∀ Γ, opA Γ (.append w eby (.const l) (.const (denV (ofs (I ++ (.seg J :: (R ++ [.blk .fix cs])))) (.sl (I.length + (R.length + 1)) 0 n n)))) [] (denH (I ++ (.seg J :: (R ++ [.blk .fix cs])))) = some (.slice a (rows.length + n) c, denH (I ++ (.seg J2 :: (R ++ [.blk .fix cs, .seg X]))))) ∧
   LsS w (denH I) (J2 ++ (R0 ++ (some ⟨.fix, new.flatten⟩ :: X))) (.slice a (rows.length + n) c) (rows ++ new) := by
 have e1 : denH (I ++ (.seg J :: (R ++ [.blk .fix cs]))) = denH I ++ (J ++ (R0 ++ [some ⟨.fix, new.flatten⟩])) := by
  rw [denH_app hI]
  simp [denL, It.den, denL_app, hR, hcs]
 have hx : srcA (denH (I ++ (.seg J :: (R ++ [.blk .fix cs])))) w (denV (ofs (I ++ (.seg J :: (R ++ [.blk .fix cs])))) (.sl (I.length + (R.length + 1)) 0 n n)) = some (new.length, new.flatten) := by
  have hg : (I ++ (.seg J :: (R ++ [.blk .fix cs])))[I.length + (R.length + 1)]? = some (.blk .fix cs) := by
   rw [List.getElem?_append_right (by omega), Nat.add_sub_cancel_left]
   simp
  have hfl := flat_len hw
  have hcl : cs.length = n * w := by have := congrArg List.length (hcs fun _ => 0); rw [List.length_map, hfl, hn] at this; exact this
  have := src_item (I := I ++ (.seg J :: (R ++ [.blk .fix cs]))) (k := I.length + (R.length + 1)) (o := 0) (n := n) (c := n) (w := w) hg (by omega)
  rw [this, hcs, hn, List.drop_zero, ← hn, ← hfl, List.take_length]
 rw [e1] at hx
 obtain ⟨v, J2, X, q1, q2, q3⟩ := hl.app (w := w) (eby := eby) (R := R0 ++ [some ⟨.fix, new.flatten⟩]) (new := new) hx hw hp hne (by rw [hn]; exact hb) (by rw [hn]; exact hc)
 obtain ⟨a, c, rfl⟩ := q3.slc
 rw [List.length_append, hn] at q2 q3
 refine ⟨a, c, J2, X, q1, fun Γ => ?_, by simpa using q3⟩
 rw [e1, q2 Γ, denH_app hI]
 simp [denL, It.den, denL_app, hR, hcs]
theorem fresh_useL {w : Nat} {I : SH} {rows : List (List Value)} (hI : I.all (It.bnd I.length) = true) (hw : ∀ r ∈ rows, r.length = w) : ∃ a c X, (freshV (denH I) rows, denH I ++ freshX w rows) = (.slice a rows.length c, denH (I ++ [.seg X])) ∧ LsS w (denH I) X (.slice a rows.length c) rows := by
 obtain ⟨a, c, e⟩ := freshV_slc (denH I) rows
 refine ⟨a, c, freshX w rows, by rw [e, denH_snoc I hI], ?_⟩
 rw [← e]
 simpa using fresh_ls (H := denH I) hw [] []
theorem isEndM {A Z : Heap} {w : Nat} {p : Addr} {c : Nat} {q : Bool} (e : isEnd A w p c = some q) : isEnd (A ++ Z) w p c = some q := by
 unfold isEnd at e ⊢
 cases hb : rd A p.block with
 | none => simp [hb] at e
 | some b => rw [rd_more hb]; rw [hb] at e; exact e
theorem sliceAM {A Z : Heap} {w : Nat} {x v : Value} {lo hi : Option Value} (e : sliceA w A x lo hi none = some v) : sliceA w (A ++ Z) x lo hi none = some v := by
 cases x with
 | slice a n c =>
  simp only [sliceA] at e ⊢
  cases hb : hiB n c hi with
  | none => simp [hb] at e
  | some m =>
   cases lb : loB m lo with
   | none => simp [hb, lb] at e
   | some l =>
    cases a with
    | none => simpa [hb, lb] using e
    | some p =>
     cases q : isEnd A w p c with
     | none => simp [hb, lb, q] at e
     | some q' => simp only [hb, lb, q] at e; simp only [isEndM q, hb, lb]; exact e
 | _ => simp [sliceA] at e
theorem slice_more {Γ : Env} {A : Heap} {w : Nat} {x v : Value} {lo hi : Option Operand} (e : opA Γ (.slice w (.const x) lo hi none) [] A = some (v, A)) (Z : Heap) : opA Γ (.slice w (.const x) lo hi none) [] (A ++ Z) = some (v, A ++ Z) := by
 simp only [opA, pureA] at e ⊢
 cases q : sliceA w A (ev [] (.const x)) (lo.map (ev [])) (hi.map (ev [])) none with
 | none => simp [q] at e
 | some u =>
  simp [q] at e
  have := sliceAM (Z := Z) q
  simp [this, e]
end Go.Am
