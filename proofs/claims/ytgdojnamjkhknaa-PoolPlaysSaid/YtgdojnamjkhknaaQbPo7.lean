/-
  The law PoolKeeps: its inner loops.
-/
import Derived.Test.YtgdojnamjkhknaaQbPo6
import Derived.Test.YtgdojnamjkhknaaQbPo4
import Derived.Test.YtgdojnamjkhknaaQbK1
namespace Go.Proofs.Ytgdojnamjkhknaa
open Go.Am
set_option linter.all false
set_option maxRecDepth 100000
namespace PO
namespace KP
abbrev tblK : Plain := [(11, O.sRuns)]
noncomputable def g : Env := fun f => match f with
 | 45 => runE (Plain.env [] (WB.gE 0)) N.il45
 | 46 => runE (Plain.env tblP (P.gE 0)) P.il46
 | 47 => B.g47
 | 48 => B.g48
 | 49 => runE (Plain.env K.tblK (K.E0.gE 0)) K.E0.il49
 | 52 => runE (Plain.env PK.tblP (PK.E1.gE 0)) OF.il52
 | 57 => smry F.pre F.res
 | 58 => runE (Plain.env [] (Y.gE 1)) Y.il58
 | 59 => runE (Plain.env [] (Y.gE 1)) Y.il59
 | _ => fun _ _ => none
noncomputable abbrev gE (k : Nat) : Env := inE tblK [] k g
theorem call {f : Nat} {args : List Value} {h : Heap} {r : Value × Heap} (ht : tblK.find f args = none) (e : g f args h = some r) : opA (Plain.env tblK (gE 0)) (.call f (args.map .const)) [] h = some r := opA_call ht e
theorem ne_h (Γ : Env) (x : Int) (h : Heap) : opA Γ (.bin .neq (kI x) (kI x)) [] h = some (.bool false, h) := by simp [opA, pureA, ev, binA, intBin]
theorem eqc_h (Γ : Env) (x : L5) (h : Heap) : opA Γ (.eqv true (.cells [false, false, false, false, true]) (.const (.agg ⟨[(.int .i64 x.a), (.int .i64 x.b), (.int .i64 x.c), (.int .i64 x.d), (.bool x.e)]⟩)) (.const (.agg ⟨[(.int .i64 x.a), (.int .i64 x.b), (.int .i64 x.c), (.int .i64 x.d), (.bool x.e)]⟩))) [] h = some (.bool false, h) := by
 simp [opA, pureA, ev, eqA, eqCells, eq1]
theorem denG {I1 : SH} (h1 : I1.all (It.bnd I1.length) = true) {I2 : SH} {B : Heap} (h2 : ∀ f, denL f I2 = B) (s : Value) : denH (I1 ++ pB s :: I2) = denH I1 ++ some ⟨.fix, [s]⟩ :: B := by
 rw [denH_app h1]
 simp [denL, It.den, den0, h2]
theorem den_snoc {B R : Heap} {I2 I3 : SH} (hI : ∀ f, denL f I2 = B) (hJ : ∀ f, denL f I3 = R) : ∀ f, denL f (I2 ++ I3) = B ++ R := fun f => by rw [denL_app, hI, hJ]
theorem c46 {I1 I2 : SH} {B : Heap} (h1 : I1.all (It.bnd I1.length) = true) (h2 : ∀ f, denL f I2 = B) {s tv : Value} {l : List L5} {ys : List R7} (hs : RowsW 5 (denH I1 ++ some ⟨.fix, [s]⟩ :: B) s (l.map e5)) (ht : RowsW 7 (denH I1 ++ some ⟨.fix, [s]⟩ :: B) tv (ys.map e7)) (hm : l.length ≤ 1000000) (hn : ys.length ≤ 1000000) :
  ∃ X : Heap, match applyF l ys with
   | some q => ∃ a c, q.1.length = l.length ∧ LsS 5 (denH I1 ++ some ⟨.fix, [.slice a l.length c]⟩ :: B) X (.slice a l.length c) (q.1.map e5) ∧ opA (Plain.env tblK (gE 0)) (.call 46 [.const (denV (ofs (I1 ++ pB s :: I2)) (.ptr I1.length 0)), .const tv]) [] (denH (I1 ++ pB s :: I2)) = some (P.tupA (some q), denH (I1 ++ pB (.slice a l.length c) :: (I2 ++ [.seg X])))
   | none => opA (Plain.env tblK (gE 0)) (.call 46 [.const (denV (ofs (I1 ++ pB s :: I2)) (.ptr I1.length 0)), .const tv]) [] (denH (I1 ++ pB s :: I2)) = some (P.tupA none, denH (I1 ++ pB s :: (I2 ++ [.seg X]))) := by
 obtain ⟨X, hX⟩ := P.use46 hs ht hm (by omega)
 refine ⟨X, ?_⟩
 have h3 := den_snoc h2 (I3 := [.seg X]) (R := X) fun f => by simp [denL, It.den]
 cases hap : applyF l ys with
 | none =>
  rw [hap] at hX
  rw [ptr_at, denG h1 h2, denG h1 h3]
  have := call (f := 46) (args := [_, _]) rfl hX
  simpa using this
 | some q =>
  rw [hap] at hX
  obtain ⟨a, c, q1, q2, q3⟩ := hX
  refine ⟨a, c, q1, q2, ?_⟩
  rw [ptr_at, denG h1 h2, denG h1 h3]
  have := call (f := 46) (args := [_, _]) rfl q3
  simpa using this
def LsT (w : Nat) (H J : Heap) (l : Value) (rows : List (List Value)) : Prop :=
 (rows = [] ∧ l = .slice none 0 0) ∨ ∃ j, l = .slice (some ⟨H.length + j, 0, none⟩) rows.length rows.length ∧ rows ≠ [] ∧ (∀ r ∈ rows, r.length = w) ∧ J[j]? = some (some ⟨.grown w, rows.flatten⟩)
theorem LsT.s {w : Nat} {H J : Heap} {l : Value} {rows : List (List Value)} (a : LsT w H J l rows) : LsS w H J l rows := by
 rcases a with a | ⟨j, a⟩
 ·exact .inl a
 ·exact .inr (.inr ⟨j, a⟩)
theorem LsT.app {w w' eby : Nat} {H J R : Heap} {l l' x : Value} {rows rows' : List (List Value)} {row : List Value} (hw : w ≠ w') (a : LsT w H J l rows) (b : LsT w' H J l' rows') (hx : srcA (H ++ (J ++ R)) w x = some (1, row)) (hr : row.length = w) (hp : 0 < w)
  (hb : (rows.length + 1) * eby ≤ 1099511627776) (hc : rows.length + 1 ≤ 1099511627776) :
  ∃ J2 : Heap, J2.length = J.length ∧ (∀ Γ, opA Γ (.append w eby (.const l) (.const x)) [] (H ++ (J ++ R)) = some (.slice (some ⟨H.length + (J2.length + R.length), 0, none⟩) (rows.length + 1) (rows.length + 1), H ++ (J2 ++ (R ++ [some ⟨.grown w, (rows ++ [row]).flatten⟩])))) ∧ LsT w' H J2 l' rows' := by
 obtain ⟨J2, q1, q2, q3⟩ := a.s.grow (new := [row]) (eby := eby) (R := R) (x := x) (by simpa using hx) hp (by simp) (by simpa using hb) (by simpa using hc)
 refine ⟨J2, q1, fun Γ => by simpa using q2 Γ, ?_⟩
 rcases b with b | ⟨j', b1, b2, b3, b4⟩
 ·exact .inl b
 ·refine .inr ⟨j', b1, b2, b3, q3 j' _ b4 fun n e => ?_⟩
  rcases a with ⟨_, a⟩ | ⟨j, a1, _, _, a4⟩
  ·rw [a] at e; cases e
  ·rw [a1] at e
   simp only [Value.slice.injEq, Option.some.injEq, Addr.mk.injEq, and_true] at e
   have : j = j' := by omega
   subst this
   rw [a4] at b4
   simp only [Option.some.injEq, Blk.mk.injEq, Kind.grown.injEq] at b4
   exact hw b4.1
theorem LsT.mk' {w : Nat} {H J R : Heap} {rows : List (List Value)} (hr : ∀ r ∈ rows, r.length = w) (hne : rows ≠ []) {j : Nat} (hj : j = J.length + R.length) (Z : Heap) : LsT w H (J ++ (R ++ (some ⟨.grown w, rows.flatten⟩ :: Z))) (.slice (some ⟨H.length + j, 0, none⟩) rows.length rows.length) rows := by
 subst hj
 refine .inr ⟨_, rfl, hne, hr, ?_⟩
 rw [List.getElem?_append_right (by omega), Nat.add_sub_cancel_left, List.getElem?_append_right (Nat.le_refl _)]
 simp
end KP
end PO
end Go.Proofs.Ytgdojnamjkhknaa
