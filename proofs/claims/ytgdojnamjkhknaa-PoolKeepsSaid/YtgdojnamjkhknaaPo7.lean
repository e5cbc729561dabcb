/-
  The law PoolKeeps: its inner loops.
-/
import Derived.Test.YtgdojnamjkhknaaPo6
import Derived.Test.YtgdojnamjkhknaaPo4
import Derived.Test.YtgdojnamjkhknaaK1
namespace Go.Proofs.Ytgdojnamjkhknaa
open Go.Am
set_option linter.all false
set_option maxRecDepth 100000
namespace PO
namespace KP
abbrev tblK : Plain := [(11, O.sRuns)]
theorem tblK_ok : PlainOk Try.prog tblK := .cons O.runs_ok .nil
noncomputable def g : Env := fun f => match f with
  | 45 => runE (Plain.env [] (WB.gE 0)) N.il45
  | 46 => runE (Plain.env tblP (P.gE 0)) P.il46
  | 47 => B.g47
  | 48 => B.g48
  | 49 => runE (Plain.env K.tblK (K.E0.gE 0)) K.E0.il49
  | 52 => runE (Plain.env PK.tblP (PK.E1.gE 0)) OF.il52
  | 57 => smry F.pre F.res
  | 58 => runE (Plain.env [] (Y.gE 1)) Y.il58
  | 59 => runE (Plain.env [] (Y.gE 1)) Y.il59
  | _ => fun _ _ => none
theorem g_ok : EnvOk Try.prog g := fun f => by
  unfold g
  split
  · exact N.sum45
  · exact P.sum46
  · exact B.summ47
  · exact B.summ48
  · exact K.sum49
  · exact OF.sum52
  · exact F.summ
  · exact Y.sum58
  · exact Y.sum59
  · exact fun args h v h' e => by cases e
theorem g_q : QuietEnv qt g := fun f args h v h' hf e => by cases hf
noncomputable abbrev gE (k : Nat) : Env := inE tblK [] k g
noncomputable abbrev cE (k : Nat) : CallS := callS tblK [] g 100 k
theorem gE_q (k : Nat) : QuietEnv qt (Plain.env tblK (gE k)) := Plain.quiet (inE_quiet g_q (fun f F h => by cases h) k)
theorem gE_ok (k : Nat) : EnvOk Try.prog (Plain.env tblK (gE k)) := Plain.ok tblK_ok (inE_ok (qt := qt) mixed tblK_ok .nil (fun f F h => by cases h) g_ok g_q k)
theorem cE_ok (k : Nat) : CallOk (Plain.env tblK (gE k)) (cE k) := callS_ok k
theorem call {f : Nat} {args : List Value} {h : Heap} {r : Value × Heap} (ht : tblK.find f args = none) (e : g f args h = some r) : opA (Plain.env tblK (gE 0)) (.call f (args.map .const)) [] h = some r := opA_call ht e
theorem sub_h (Γ : Env) (x y z : Int) (h : Heap) (e : z = IntKind.wrap .i64 (x - y)) : opA Γ (.bin .sub (.const (.int .i64 x)) (.const (.int .i64 y))) [] h = some (.int .i64 z, h) := by subst e; rfl
theorem add_h (Γ : Env) (x y z : Int) (h : Heap) (e : z = IntKind.wrap .i64 (x + y)) : opA Γ (.bin .add (.const (.int .i64 x)) (.const (.int .i64 y))) [] h = some (.int .i64 z, h) := by subst e; rfl
theorem ne_h (Γ : Env) (x : Int) (h : Heap) : opA Γ (.bin .neq (.const (.int .i64 x)) (.const (.int .i64 x))) [] h = some (.bool false, h) := by simp [opA, pureA, ev, binA, intBin]
theorem lss_h (Γ : Env) (x y : Int) (h : Heap) (e : ¬ x < y) : opA Γ (.bin .lss (.const (.int .i64 x)) (.const (.int .i64 y))) [] h = some (.bool false, h) := by simp [opA, pureA, ev, binA, intBin, e]
theorem eqc_h (Γ : Env) (x : L5) (h : Heap) : opA Γ (.eqv true (.cells [false, false, false, false, true]) (.const (.agg ⟨[(.int .i64 x.a), (.int .i64 x.b), (.int .i64 x.c), (.int .i64 x.d), (.bool x.e)]⟩)) (.const (.agg ⟨[(.int .i64 x.a), (.int .i64 x.b), (.int .i64 x.c), (.int .i64 x.d), (.bool x.e)]⟩))) [] h = some (.bool false, h) := by
  simp [opA, pureA, ev, eqA, eqCells, eq1]
/-! ### Calls at a pool's cell -/
theorem denG {I1 : SH} (h1 : I1.all (It.bnd I1.length) = true) {I2 : SH} {B : Heap} (h2 : ∀ f, denL f I2 = B) (s : Value) : denH (I1 ++ pB s :: I2) = denH I1 ++ some ⟨.fix, [s]⟩ :: B := by
  rw [denH_app h1]
  simp [denL, It.den, den0, h2]
theorem den_snoc {B R : Heap} {I2 I3 : SH} (hI : ∀ f, denL f I2 = B) (hJ : ∀ f, denL f I3 = R) : ∀ f, denL f (I2 ++ I3) = B ++ R := fun f => by rw [denL_app, hI, hJ]
theorem c58 {I1 I2 : SH} {B : Heap} (h1 : I1.all (It.bnd I1.length) = true) (h2 : ∀ f, denL f I2 = B) {s : Value} {l : List L5} (hs : RowsW 5 (denH I1 ++ some ⟨.fix, [s]⟩ :: B) s (l.map e5)) (hm : l.length ≤ 1000000) :
    ∃ a c X, LsS 5 (denH I1 ++ some ⟨.fix, [s]⟩ :: B) X (.slice a l.length c) (l.map e5) ∧ opA (Plain.env tblK (gE 0)) (.call 58 [.const (denV (ofs (I1 ++ pB s :: I2)) (.ptr I1.length 0))]) [] (denH (I1 ++ pB s :: I2)) = some (.slice a l.length c, denH (I1 ++ pB s :: (I2 ++ [.seg X]))) := by
  obtain ⟨a, c, X, q1, _, q3⟩ := Y.run59 (H := denH I1 ++ some ⟨.fix, [s]⟩ :: B) rd_mid1 hs hm
  refine ⟨a, c, X, q1, ?_⟩
  rw [ptr_at, denG h1 h2, denG h1 (den_snoc h2 (R := X) fun f => by simp [denL, It.den])]
  have := call (f := 58) (args := [_]) rfl q3
  simpa using this
theorem c59 {I1 I2 : SH} {B : Heap} (h1 : I1.all (It.bnd I1.length) = true) (h2 : ∀ f, denL f I2 = B) {s : Value} {l : List L5} (hs : RowsW 5 (denH I1 ++ some ⟨.fix, [s]⟩ :: B) s (l.map e5)) (hm : l.length ≤ 1000000) :
    ∃ a c X, LsS 5 (denH I1 ++ some ⟨.fix, [s]⟩ :: B) X (.slice a l.length c) (l.map e5) ∧ opA (Plain.env tblK (gE 0)) (.call 59 [.const (denV (ofs (I1 ++ pB s :: I2)) (.ptr I1.length 0))]) [] (denH (I1 ++ pB s :: I2)) = some (.pointer (some ⟨(denH I1 ++ some ⟨.fix, [s]⟩ :: (B ++ X)).length, 0, none⟩), denH (I1 ++ pB s :: (I2 ++ [.seg X, pB (.slice a l.length c)]))) := by
  obtain ⟨a, c, X, q1, q2, _⟩ := Y.run59 (H := denH I1 ++ some ⟨.fix, [s]⟩ :: B) rd_mid1 hs hm
  refine ⟨a, c, X, q1, ?_⟩
  rw [ptr_at, denG h1 h2, denG h1 (den_snoc h2 (R := X ++ [some ⟨.fix, [.slice a l.length c]⟩]) fun f => by simp [denL, It.den, den0])]
  have := call (f := 59) (args := [_]) rfl q2
  simpa using this
theorem c47 {I1 I2 : SH} {B : Heap} (h1 : I1.all (It.bnd I1.length) = true) (h2 : ∀ f, denL f I2 = B) {s : Value} {l : List L5} (hs : RowsW 5 (denH I1 ++ some ⟨.fix, [s]⟩ :: B) s (l.map e5)) (hm : l.length ≤ 1000000) {n : Int} (hn : sumF L5.b 0 l = n) :
    opA (Plain.env tblK (gE 0)) (.call 47 [.const (denV (ofs (I1 ++ pB s :: I2)) (.ptr I1.length 0))]) [] (denH (I1 ++ pB s :: I2)) = some (.int .i64 n, denH (I1 ++ pB s :: I2)) := by
  rw [ptr_at, denG h1 h2, ← hn]
  exact call (f := 47) (args := [_]) rfl (preP_call (F := fun l h => (.int .i64 (sumF L5.b 0 l), h)) rd_mid1 hs (by omega))
theorem c48 {I1 I2 : SH} {B : Heap} (h1 : I1.all (It.bnd I1.length) = true) (h2 : ∀ f, denL f I2 = B) {s : Value} {l : List L5} (hs : RowsW 5 (denH I1 ++ some ⟨.fix, [s]⟩ :: B) s (l.map e5)) (hm : l.length ≤ 1000000) {n : Int} (hn : sumF L5.c 0 l = n) :
    opA (Plain.env tblK (gE 0)) (.call 48 [.const (denV (ofs (I1 ++ pB s :: I2)) (.ptr I1.length 0))]) [] (denH (I1 ++ pB s :: I2)) = some (.int .i64 n, denH (I1 ++ pB s :: I2)) := by
  rw [ptr_at, denG h1 h2, ← hn]
  exact call (f := 48) (args := [_]) rfl (preP_call (F := fun l h => (.int .i64 (sumF L5.c 0 l), h)) rd_mid1 hs (by omega))
theorem c57 {I1 I2 : SH} {B : Heap} (h1 : I1.all (It.bnd I1.length) = true) (h2 : ∀ f, denL f I2 = B) {s : Value} {l : List L5} (hs : RowsW 5 (denH I1 ++ some ⟨.fix, [s]⟩ :: B) s (l.map e5)) (hm : l.length ≤ 1000000) {id : Int} {r : L5 × Bool} (hr : findF id l = r) :
    opA (Plain.env tblK (gE 0)) (.call 57 [.const (denV (ofs (I1 ++ pB s :: I2)) (.ptr I1.length 0)), .const (.int .i64 id)]) [] (denH (I1 ++ pB s :: I2)) = some (F.tupF r, denH (I1 ++ pB s :: I2)) := by
  rw [ptr_at, denG h1 h2, ← hr]
  exact call (f := 57) (args := [_, _]) rfl (F.call id rd_mid1 hs (by omega))
theorem c46 {I1 I2 : SH} {B : Heap} (h1 : I1.all (It.bnd I1.length) = true) (h2 : ∀ f, denL f I2 = B) {s tv : Value} {l : List L5} {ys : List R7} (hs : RowsW 5 (denH I1 ++ some ⟨.fix, [s]⟩ :: B) s (l.map e5)) (ht : RowsW 7 (denH I1 ++ some ⟨.fix, [s]⟩ :: B) tv (ys.map e7)) (hm : l.length ≤ 1000000) (hn : ys.length ≤ 1000000) :
    ∃ X : Heap, match applyF l ys with
      | some q => ∃ a c, q.1.length = l.length ∧ LsS 5 (denH I1 ++ some ⟨.fix, [.slice a l.length c]⟩ :: B) X (.slice a l.length c) (q.1.map e5) ∧ opA (Plain.env tblK (gE 0)) (.call 46 [.const (denV (ofs (I1 ++ pB s :: I2)) (.ptr I1.length 0)), .const tv]) [] (denH (I1 ++ pB s :: I2)) = some (P.tupA (some q), denH (I1 ++ pB (.slice a l.length c) :: (I2 ++ [.seg X])))
      | none => opA (Plain.env tblK (gE 0)) (.call 46 [.const (denV (ofs (I1 ++ pB s :: I2)) (.ptr I1.length 0)), .const tv]) [] (denH (I1 ++ pB s :: I2)) = some (P.tupA none, denH (I1 ++ pB s :: (I2 ++ [.seg X]))) := by
  obtain ⟨X, hX⟩ := P.use46 hs ht hm (by omega)
  refine ⟨X, ?_⟩
  have h3 := den_snoc h2 (I3 := [.seg X]) (R := X) fun f => by simp [denL, It.den]
  cases hap : applyF l ys with
  | none =>
    rw [hap] at hX
    rw [ptr_at, denG h1 h2, denG h1 h3]
    have := call (f := 46) (args := [_, _]) rfl hX
    simpa using this
  | some q =>
    rw [hap] at hX
    obtain ⟨a, c, q1, q2, q3⟩ := hX
    refine ⟨a, c, q1, q2, ?_⟩
    rw [ptr_at, denG h1 h2, denG h1 h3]
    have := call (f := 46) (args := [_, _]) rfl q3
    simpa using this
/-! ### Two lists in one part -/
def LsT (w : Nat) (H J : Heap) (l : Value) (rows : List (List Value)) : Prop :=
  (rows = [] ∧ l = .slice none 0 0) ∨ ∃ j, l = .slice (some ⟨H.length + j, 0, none⟩) rows.length rows.length ∧ rows ≠ [] ∧ (∀ r ∈ rows, r.length = w) ∧ J[j]? = some (some ⟨.grown w, rows.flatten⟩)
theorem LsT.s {w : Nat} {H J : Heap} {l : Value} {rows : List (List Value)} (a : LsT w H J l rows) : LsS w H J l rows := by
  rcases a with a | ⟨j, a⟩
  · exact .inl a
  · exact .inr (.inr ⟨j, a⟩)
theorem LsT.slc {w : Nat} {H J : Heap} {l : Value} {rows : List (List Value)} (a : LsT w H J l rows) : ∃ p c, l = .slice p rows.length c := by
  rcases a with ⟨rfl, rfl⟩ | ⟨j, rfl, _⟩
  · exact ⟨_, _, rfl⟩
  · exact ⟨_, _, rfl⟩
theorem LsT.app {w w' eby : Nat} {H J R : Heap} {l l' x : Value} {rows rows' : List (List Value)} {row : List Value} (hw : w ≠ w') (a : LsT w H J l rows) (b : LsT w' H J l' rows') (hx : srcA (H ++ (J ++ R)) w x = some (1, row)) (hr : row.length = w) (hp : 0 < w)
    (hb : (rows.length + 1) * eby ≤ 1099511627776) (hc : rows.length + 1 ≤ 1099511627776) :
    ∃ J2 : Heap, J2.length = J.length ∧ (∀ Γ, opA Γ (.append w eby (.const l) (.const x)) [] (H ++ (J ++ R)) = some (.slice (some ⟨H.length + (J2.length + R.length), 0, none⟩) (rows.length + 1) (rows.length + 1), H ++ (J2 ++ (R ++ [some ⟨.grown w, (rows ++ [row]).flatten⟩])))) ∧ LsT w' H J2 l' rows' := by
  obtain ⟨J2, q1, q2, q3⟩ := a.s.grow (new := [row]) (eby := eby) (R := R) (x := x) (by simpa using hx) hp (by simp) (by simpa using hb) (by simpa using hc)
  refine ⟨J2, q1, fun Γ => by simpa using q2 Γ, ?_⟩
  rcases b with b | ⟨j', b1, b2, b3, b4⟩
  · exact .inl b
  · refine .inr ⟨j', b1, b2, b3, q3 j' _ b4 fun n e => ?_⟩
    rcases a with ⟨_, a⟩ | ⟨j, a1, _, _, a4⟩
    · rw [a] at e; cases e
    · rw [a1] at e
      simp only [Value.slice.injEq, Option.some.injEq, Addr.mk.injEq, and_true] at e
      have : j = j' := by omega
      subst this
      rw [a4] at b4
      simp only [Option.some.injEq, Blk.mk.injEq, Kind.grown.injEq] at b4
      exact hw b4.1
theorem LsT.mk' {w : Nat} {H J R : Heap} {rows : List (List Value)} (hr : ∀ r ∈ rows, r.length = w) (hne : rows ≠ []) {j : Nat} (hj : j = J.length + R.length) (Z : Heap) : LsT w H (J ++ (R ++ (some ⟨.grown w, rows.flatten⟩ :: Z))) (.slice (some ⟨H.length + j, 0, none⟩) rows.length rows.length) rows := by
  subst hj
  refine .inr ⟨_, rfl, hne, hr, ?_⟩
  rw [List.getElem?_append_right (by omega), Nat.add_sub_cancel_left, List.getElem?_append_right (Nat.le_refl _)]
  simp
/-! ### The loops -/
/-- cascade/cascadelaw9.PoolKeeps -/
def il14 : FnIL := ⟨234, [.tmp 6],
 .seq (.reg [
    ⟨(some 6), none, .mov (.const (.bool false))⟩])
 (.seq (.reg [
    ⟨(some 33), none, .mov (.tmp 0)⟩,
    ⟨(some 34), none, .call 49 [(.tmp 33)]⟩,
    ⟨(some 7), none, .mov (.tmp 34)⟩])
 (.seq (.reg [
    ⟨(some 35), none, .mov (.tmp 7)⟩,
    ⟨(some 36), none, .call 45 [(.tmp 35)]⟩,
    ⟨(some 8), none, .mov (.tmp 36)⟩])
 (.seq (.seq (.reg [
     ⟨(some 37), none, .mov (.tmp 8)⟩,
     ⟨(some 38), none, .eqv false .ptr (.tmp 37) (.const (.pointer none))⟩])
  (.ite (.tmp 38)
    (.seq (.reg [
       ⟨(some 6), none, .mov (.const (.bool false))⟩])
    (.ret))
    (.skip)))
 (.seq (.reg [
    ⟨(some 39), none, .mov (.tmp 8)⟩,
    ⟨(some 40), none, .call 47 [(.tmp 39)]⟩,
    ⟨(some 9), none, .mov (.tmp 40)⟩,
    ⟨(some 10), none, .mov (.const (.int .i64 0))⟩])
 (.seq (.seq (.reg [
     ⟨(some 11), none, .mov (.const (.int .i64 0))⟩])
  (.block 0
    (.loop
      (.seq (.seq (.reg [
          ⟨(some 41), none, .mov (.tmp 11)⟩,
          ⟨(some 42), none, .mov (.tmp 1)⟩,
          ⟨(some 43), none, .len (.tmp 42)⟩,
          ⟨(some 44), none, .bin .lss (.tmp 41) (.tmp 43)⟩,
          ⟨(some 45), none, .mov (.tmp 44)⟩,
          ⟨(some 46), (some (45, true)), .mov (.tmp 11)⟩,
          ⟨(some 47), (some (45, true)), .bin .lss (.tmp 46) (.const (.int .i64 8))⟩,
          ⟨(some 48), none, .pick (.tmp 45) (.tmp 47) (.const (.bool false))⟩])
       (.ite (.tmp 48)
         (.skip)
         (.exit 0)))
      (.seq (.block 1
         (.seq (.reg [
            ⟨(some 12), none, .mov (.const (.slice none 0 0))⟩])
         (.seq (.reg [
            ⟨(some 13), none, .mov (.const (.slice none 0 0))⟩])
         (.seq (.reg [
            ⟨(some 51), none, .mov (.tmp 8)⟩,
            ⟨(some 52), none, .call 58 [(.tmp 51)]⟩,
            ⟨(some 14), none, .mov (.tmp 52)⟩])
         (.seq (.seq (.reg [
             ⟨(some 53), none, .mov (.tmp 14)⟩,
             ⟨(some 54), none, .len (.tmp 53)⟩,
             ⟨(some 55), none, .mov (.const (.int .i64 0))⟩])
          (.block 2
            (.loop
              (.seq (.reg [
                 ⟨(some 56), none, .bin .lss (.tmp 55) (.tmp 54)⟩])
              (.seq (.ite (.tmp 56)
                 (.skip)
                 (.exit 2))
              (.seq (.block 3
                 (.seq (.reg [
                    ⟨(some 57), none, .iadr 5 none (.tmp 53) (.tmp 55)⟩,
                    ⟨(some 58), none, .load (.tmp 57) (some 5)⟩,
                    ⟨(some 16), none, .alloc [(.int .i64 0), (.int .i64 0), (.int .i64 0), (.int .i64 0), (.bool false)]⟩,
                    ⟨none, none, .store (.tmp 16) (.tmp 58) 5⟩])
                 (.seq (.reg [
                    ⟨(some 59), none, .mov (.tmp 12)⟩,
                    ⟨(some 60), none, .fadr 0 (.tmp 16)⟩,
                    ⟨(some 61), none, .load (.tmp 60) (some 2)⟩,
                    ⟨(some 62), none, .mkrow [(.int .i64 0), (.int .i64 0)] 1 [(0, 2, (.tmp 61))]⟩,
                    ⟨(some 63), none, .append 2 16 (.tmp 59) (.tmp 62)⟩,
                    ⟨(some 12), none, .mov (.tmp 63)⟩])
                 (.reg [
                   ⟨(some 64), none, .mov (.tmp 13)⟩,
                   ⟨(some 65), none, .fadr 2 (.tmp 16)⟩,
                   ⟨(some 66), none, .load (.tmp 65) none⟩,
                   ⟨(some 67), none, .mkrow [(.int .i64 0)] 1 [(0, 1, (.tmp 66))]⟩,
                   ⟨(some 68), none, .append 1 8 (.tmp 64) (.tmp 67)⟩,
                   ⟨(some 13), none, .mov (.tmp 68)⟩]))))
              (.reg [
                ⟨(some 69), none, .bin .add (.tmp 55) (.const (.int .i64 1))⟩,
                ⟨(some 55), none, .mov (.tmp 69)⟩])))))))
         (.seq (.reg [
            ⟨(some 70), none, .mov (.tmp 1)⟩,
            ⟨(some 71), none, .mov (.tmp 11)⟩,
            ⟨(some 72), none, .iadr 6 none (.tmp 70) (.tmp 71)⟩,
            ⟨(some 73), none, .load (.tmp 72) (some 6)⟩,
            ⟨(some 74), none, .mov (.tmp 12)⟩,
            ⟨(some 75), none, .mov (.tmp 13)⟩,
            ⟨(some 76), none, .call 52 [(.tmp 73), (.tmp 74), (.tmp 75)]⟩,
            ⟨(some 17), none, .mov (.tmp 76)⟩])
         (.seq (.reg [
            ⟨(some 77), none, .mov (.tmp 8)⟩,
            ⟨(some 78), none, .call 59 [(.tmp 77)]⟩,
            ⟨(some 18), none, .mov (.tmp 78)⟩])
         (.seq (.seq (.reg [
             ⟨(some 79), none, .mov (.tmp 18)⟩,
             ⟨(some 80), none, .eqv false .ptr (.tmp 79) (.const (.pointer none))⟩])
          (.ite (.tmp 80)
            (.seq (.reg [
               ⟨(some 6), none, .mov (.const (.bool false))⟩])
            (.ret))
            (.skip)))
         (.seq (.reg [
            ⟨(some 82), none, .mov (.tmp 8)⟩,
            ⟨(some 83), none, .mov (.tmp 17)⟩,
            ⟨(some 84), none, .call 46 [(.tmp 82), (.tmp 83)]⟩,
            ⟨(some 81), none, .mov (.tmp 84)⟩,
            ⟨(some 85), none, .ext 0 (.tmp 81)⟩,
            ⟨(some 86), none, .ext 1 (.tmp 81)⟩,
            ⟨(some 19), none, .alloc [(.int .i64 0), (.int .i64 0), (.int .i64 0), (.int .i64 0)]⟩,
            ⟨none, none, .store (.tmp 19) (.tmp 85) 4⟩,
            ⟨(some 20), none, .mov (.tmp 86)⟩])
         (.seq (.seq (.dreg [
             ⟨(some 87), none, .mov (.tmp 20)⟩,
             ⟨(some 88), none, .bin .neq (.tmp 87) (.const (.int .i64 0))⟩,
             ⟨(some 89), none, .mov (.tmp 88)⟩,
             ⟨(some 90), (some (89, false)), .mov (.tmp 9)⟩,
             ⟨(some 91), (some (89, false)), .mov (.tmp 8)⟩,
             ⟨(some 92), (some (89, false)), .call 47 [(.tmp 91)]⟩,
             ⟨(some 93), (some (89, false)), .bin .sub (.tmp 90) (.tmp 92)⟩,
             ⟨(some 94), (some (89, false)), .fadr 0 (.tmp 19)⟩,
             ⟨(some 95), (some (89, false)), .load (.tmp 94) none⟩,
             ⟨(some 96), (some (89, false)), .fadr 2 (.tmp 19)⟩,
             ⟨(some 97), (some (89, false)), .load (.tmp 96) none⟩,
             ⟨(some 98), (some (89, false)), .bin .add (.tmp 95) (.tmp 97)⟩,
             ⟨(some 99), (some (89, false)), .bin .neq (.tmp 93) (.tmp 98)⟩,
             ⟨(some 100), none, .pick (.tmp 89) (.const (.bool true)) (.tmp 99)⟩] [(8, 5), (10, 5)])
          (.ite (.tmp 100)
            (.seq (.reg [
               ⟨(some 6), none, .mov (.const (.bool false))⟩])
            (.ret))
            (.skip)))
         (.seq (.dreg [
            ⟨(some 101), none, .mov (.tmp 8)⟩,
            ⟨(some 102), none, .call 47 [(.tmp 101)]⟩,
            ⟨(some 103), none, .mov (.tmp 10)⟩,
            ⟨(some 104), none, .fadr 2 (.tmp 19)⟩,
            ⟨(some 105), none, .load (.tmp 104) none⟩,
            ⟨(some 106), none, .bin .add (.tmp 103) (.tmp 105)⟩,
            ⟨(some 107), none, .fadr 3 (.tmp 19)⟩,
            ⟨(some 108), none, .load (.tmp 107) none⟩,
            ⟨(some 109), none, .bin .sub (.tmp 106) (.tmp 108)⟩,
            ⟨(some 9), none, .mov (.tmp 102)⟩,
            ⟨(some 10), none, .mov (.tmp 109)⟩] [(4, 1), (7, 1)])
         (.seq (.seq (.reg [
             ⟨(some 110), none, .mov (.tmp 8)⟩,
             ⟨(some 111), none, .call 48 [(.tmp 110)]⟩,
             ⟨(some 112), none, .mov (.tmp 10)⟩,
             ⟨(some 113), none, .bin .neq (.tmp 111) (.tmp 112)⟩,
             ⟨(some 114), none, .mov (.tmp 113)⟩,
             ⟨(some 115), (some (114, false)), .mov (.tmp 10)⟩,
             ⟨(some 116), (some (114, false)), .bin .lss (.tmp 115) (.const (.int .i64 0))⟩,
             ⟨(some 117), none, .pick (.tmp 114) (.const (.bool true)) (.tmp 116)⟩])
          (.ite (.tmp 117)
            (.seq (.reg [
               ⟨(some 6), none, .mov (.const (.bool false))⟩])
            (.ret))
            (.skip)))
         (.seq (.seq (.reg [
             ⟨(some 118), none, .mov (.tmp 18)⟩,
             ⟨(some 119), none, .call 58 [(.tmp 118)]⟩,
             ⟨(some 120), none, .len (.tmp 119)⟩,
             ⟨(some 121), none, .mov (.tmp 14)⟩,
             ⟨(some 122), none, .len (.tmp 121)⟩,
             ⟨(some 123), none, .bin .neq (.tmp 120) (.tmp 122)⟩,
             ⟨(some 124), none, .mov (.tmp 123)⟩,
             ⟨(some 125), (some (124, false)), .mov (.tmp 8)⟩,
             ⟨(some 126), (some (124, false)), .call 58 [(.tmp 125)]⟩,
             ⟨(some 127), (some (124, false)), .len (.tmp 126)⟩,
             ⟨(some 128), (some (124, false)), .mov (.tmp 14)⟩,
             ⟨(some 129), (some (124, false)), .len (.tmp 128)⟩,
             ⟨(some 130), (some (124, false)), .bin .neq (.tmp 127) (.tmp 129)⟩,
             ⟨(some 131), none, .pick (.tmp 124) (.const (.bool true)) (.tmp 130)⟩])
          (.ite (.tmp 131)
            (.seq (.reg [
               ⟨(some 6), none, .mov (.const (.bool false))⟩])
            (.ret))
            (.skip)))
         (.seq (.seq (.reg [
             ⟨(some 132), none, .mov (.tmp 18)⟩,
             ⟨(some 133), none, .call 58 [(.tmp 132)]⟩,
             ⟨(some 134), none, .len (.tmp 133)⟩,
             ⟨(some 135), none, .mov (.const (.int .i64 0))⟩])
          (.block 4
            (.loop
              (.seq (.reg [
                 ⟨(some 136), none, .bin .lss (.tmp 135) (.tmp 134)⟩])
              (.seq (.ite (.tmp 136)
                 (.skip)
                 (.exit 4))
              (.seq (.block 5
                 (.seq (.reg [
                    ⟨(some 137), none, .mov (.tmp 135)⟩,
                    ⟨(some 138), none, .iadr 5 none (.tmp 133) (.tmp 135)⟩,
                    ⟨(some 139), none, .load (.tmp 138) (some 5)⟩,
                    ⟨(some 22), none, .alloc [(.int .i64 0), (.int .i64 0), (.int .i64 0), (.int .i64 0), (.bool false)]⟩,
                    ⟨(some 21), none, .mov (.tmp 137)⟩,
                    ⟨none, none, .store (.tmp 22) (.tmp 139) 5⟩])
                 (.seq (.reg [
                    ⟨(some 23), none, .mov (.const (.bool false))⟩])
                 (.seq (.seq (.reg [
                     ⟨(some 140), none, .mov (.tmp 17)⟩,
                     ⟨(some 141), none, .len (.tmp 140)⟩,
                     ⟨(some 142), none, .mov (.const (.int .i64 0))⟩])
                  (.block 6
                    (.loop
                      (.seq (.reg [
                         ⟨(some 143), none, .bin .lss (.tmp 142) (.tmp 141)⟩])
                      (.seq (.ite (.tmp 143)
                         (.skip)
                         (.exit 6))
                      (.seq (.block 7
                         (.seq (.reg [
                            ⟨(some 144), none, .iadr 7 none (.tmp 140) (.tmp 142)⟩,
                            ⟨(some 145), none, .load (.tmp 144) (some 7)⟩,
                            ⟨(some 25), none, .alloc [(.int .i64 0), (.int .i64 0), (.int .i64 0), (.int .i64 0), (.int .i64 0), (.int .i64 0), (.bool false)]⟩,
                            ⟨none, none, .store (.tmp 25) (.tmp 145) 7⟩])
                         (.reg [
                           ⟨(some 146), none, .mov (.tmp 23)⟩,
                           ⟨(some 147), none, .mov (.tmp 146)⟩,
                           ⟨(some 148), (some (147, false)), .fadr 0 (.tmp 25)⟩,
                           ⟨(some 149), (some (147, false)), .load (.tmp 148) none⟩,
                           ⟨(some 150), (some (147, false)), .fadr 0 (.tmp 22)⟩,
                           ⟨(some 151), (some (147, false)), .fadr 0 (.tmp 150)⟩,
                           ⟨(some 152), (some (147, false)), .load (.tmp 151) none⟩,
                           ⟨(some 153), (some (147, false)), .bin .eql (.tmp 149) (.tmp 152)⟩,
                           ⟨(some 154), none, .pick (.tmp 147) (.const (.bool true)) (.tmp 153)⟩,
                           ⟨(some 23), none, .mov (.tmp 154)⟩])))
                      (.reg [
                        ⟨(some 155), none, .bin .add (.tmp 142) (.const (.int .i64 1))⟩,
                        ⟨(some 142), none, .mov (.tmp 155)⟩])))))))
                 (.seq (.dreg [
                    ⟨(some 156), none, .load (.tmp 22) (some 5)⟩,
                    ⟨(some 157), none, .mov (.tmp 14)⟩,
                    ⟨(some 158), none, .mov (.tmp 21)⟩,
                    ⟨(some 159), none, .iadr 5 none (.tmp 157) (.tmp 158)⟩,
                    ⟨(some 160), none, .load (.tmp 159) (some 5)⟩,
                    ⟨(some 161), none, .eqv true (.cells [false, false, false, false, true]) (.tmp 156) (.tmp 160)⟩,
                    ⟨(some 162), none, .mov (.tmp 161)⟩,
                    ⟨(some 163), (some (162, false)), .mov (.tmp 23)⟩,
                    ⟨(some 164), (some (162, false)), .un .not (.tmp 163)⟩,
                    ⟨(some 165), (some (162, false)), .mov (.tmp 164)⟩,
                    ⟨(some 166), (some (165, true)), .mov (.tmp 8)⟩,
                    ⟨(some 167), (some (165, true)), .call 58 [(.tmp 166)]⟩,
                    ⟨(some 168), (some (165, true)), .mov (.tmp 21)⟩,
                    ⟨(some 169), (some (165, true)), .iadr 5 none (.tmp 167) (.tmp 168)⟩,
                    ⟨(some 170), (some (165, true)), .load (.tmp 169) (some 5)⟩,
                    ⟨(some 171), (some (165, true)), .load (.tmp 22) (some 5)⟩,
                    ⟨(some 172), (some (165, true)), .eqv true (.cells [false, false, false, false, true]) (.tmp 170) (.tmp 171)⟩,
                    ⟨(some 173), (some (162, false)), .pick (.tmp 165) (.tmp 172) (.const (.bool false))⟩,
                    ⟨(some 174), none, .pick (.tmp 162) (.const (.bool true)) (.tmp 173)⟩] [(15, 11)])
                 (.ite (.tmp 174)
                   (.seq (.reg [
                      ⟨(some 6), none, .mov (.const (.bool false))⟩])
                   (.ret))
                   (.skip)))))))
              (.reg [
                ⟨(some 175), none, .bin .add (.tmp 135) (.const (.int .i64 1))⟩,
                ⟨(some 135), none, .mov (.tmp 175)⟩])))))))
         (.seq (.reg [
            ⟨(some 177), none, .mov (.tmp 8)⟩,
            ⟨(some 178), none, .mov (.tmp 17)⟩,
            ⟨(some 179), none, .build [(.int .i64 0), (.int .i64 0), (.int .i64 0), (.int .i64 0), (.int .i64 0), (.int .i64 0), (.bool false)] [(0, 1, (.const (.int .i64 1073741824)))]⟩,
            ⟨(some 180), none, .mkrow [(.int .i64 0), (.int .i64 0), (.int .i64 0), (.int .i64 0), (.int .i64 0), (.int .i64 0), (.bool false)] 1 [(0, 7, (.tmp 179))]⟩,
            ⟨(some 181), none, .append 7 56 (.tmp 178) (.tmp 180)⟩,
            ⟨(some 182), none, .call 46 [(.tmp 177), (.tmp 181)]⟩,
            ⟨(some 176), none, .mov (.tmp 182)⟩,
            ⟨(some 183), none, .ext 0 (.tmp 176)⟩,
            ⟨(some 184), none, .ext 1 (.tmp 176)⟩,
            ⟨(some 26), none, .alloc [(.int .i64 0), (.int .i64 0), (.int .i64 0), (.int .i64 0)]⟩,
            ⟨none, none, .store (.tmp 26) (.tmp 183) 4⟩,
            ⟨(some 27), none, .mov (.tmp 184)⟩])
         (.seq (.reg [
            ⟨(some 185), none, .mov (.tmp 27)⟩,
            ⟨(some 186), none, .bin .neq (.tmp 185) (.const (.int .i64 3))⟩,
            ⟨(some 187), none, .mov (.tmp 186)⟩,
            ⟨(some 188), (some (187, false)), .mov (.tmp 8)⟩,
            ⟨(some 189), (some (187, false)), .call 47 [(.tmp 188)]⟩,
            ⟨(some 190), (some (187, false)), .mov (.tmp 9)⟩,
            ⟨(some 191), (some (187, false)), .bin .neq (.tmp 189) (.tmp 190)⟩,
            ⟨(some 192), none, .pick (.tmp 187) (.const (.bool true)) (.tmp 191)⟩])
         (.ite (.tmp 192)
           (.seq (.reg [
              ⟨(some 6), none, .mov (.const (.bool false))⟩])
           (.ret))
           (.skip))))))))))))))))))
      (.reg [
        ⟨(some 49), none, .mov (.tmp 11)⟩,
        ⟨(some 50), none, .bin .add (.tmp 49) (.const (.int .i64 1))⟩,
        ⟨(some 11), none, .mov (.tmp 50)⟩]))))))
 (.seq (.reg [
    ⟨(some 194), none, .mov (.tmp 8)⟩,
    ⟨(some 195), none, .mov (.tmp 2)⟩,
    ⟨(some 196), none, .call 57 [(.tmp 194), (.tmp 195)]⟩,
    ⟨(some 193), none, .mov (.tmp 196)⟩,
    ⟨(some 197), none, .ext 0 (.tmp 193)⟩,
    ⟨(some 198), none, .ext 1 (.tmp 193)⟩,
    ⟨(some 28), none, .alloc [(.int .i64 0), (.int .i64 0), (.int .i64 0), (.int .i64 0), (.bool false)]⟩,
    ⟨none, none, .store (.tmp 28) (.tmp 197) 5⟩,
    ⟨(some 29), none, .mov (.tmp 198)⟩])
 (.seq (.reg [
    ⟨(some 30), none, .mov (.const (.bool false))⟩])
 (.seq (.seq (.reg [
     ⟨(some 199), none, .mov (.tmp 8)⟩,
     ⟨(some 200), none, .call 58 [(.tmp 199)]⟩,
     ⟨(some 201), none, .len (.tmp 200)⟩,
     ⟨(some 202), none, .mov (.const (.int .i64 0))⟩])
  (.block 8
    (.loop
      (.seq (.reg [
         ⟨(some 203), none, .bin .lss (.tmp 202) (.tmp 201)⟩])
      (.seq (.ite (.tmp 203)
         (.skip)
         (.exit 8))
      (.seq (.block 9
         (.seq (.reg [
            ⟨(some 204), none, .iadr 5 none (.tmp 200) (.tmp 202)⟩,
            ⟨(some 205), none, .load (.tmp 204) (some 5)⟩,
            ⟨(some 32), none, .alloc [(.int .i64 0), (.int .i64 0), (.int .i64 0), (.int .i64 0), (.bool false)]⟩,
            ⟨none, none, .store (.tmp 32) (.tmp 205) 5⟩])
         (.reg [
           ⟨(some 206), none, .mov (.tmp 30)⟩,
           ⟨(some 207), none, .mov (.tmp 206)⟩,
           ⟨(some 208), (some (207, false)), .fadr 0 (.tmp 32)⟩,
           ⟨(some 209), (some (207, false)), .fadr 0 (.tmp 208)⟩,
           ⟨(some 210), (some (207, false)), .load (.tmp 209) none⟩,
           ⟨(some 211), (some (207, false)), .mov (.tmp 2)⟩,
           ⟨(some 212), (some (207, false)), .bin .eql (.tmp 210) (.tmp 211)⟩,
           ⟨(some 213), (some (207, false)), .mov (.tmp 212)⟩,
           ⟨(some 214), (some (213, true)), .load (.tmp 32) (some 5)⟩,
           ⟨(some 215), (some (213, true)), .load (.tmp 28) (some 5)⟩,
           ⟨(some 216), (some (213, true)), .eqv false (.cells [false, false, false, false, true]) (.tmp 214) (.tmp 215)⟩,
           ⟨(some 217), (some (207, false)), .pick (.tmp 213) (.tmp 216) (.const (.bool false))⟩,
           ⟨(some 218), none, .pick (.tmp 207) (.const (.bool true)) (.tmp 217)⟩,
           ⟨(some 30), none, .mov (.tmp 218)⟩])))
      (.reg [
        ⟨(some 219), none, .bin .add (.tmp 202) (.const (.int .i64 1))⟩,
        ⟨(some 202), none, .mov (.tmp 219)⟩])))))))
 (.seq (.reg [
    ⟨(some 220), none, .mov (.tmp 29)⟩,
    ⟨(some 221), none, .mov (.tmp 30)⟩,
    ⟨(some 222), none, .eqv false .bool (.tmp 220) (.tmp 221)⟩,
    ⟨(some 223), none, .mov (.tmp 222)⟩,
    ⟨(some 224), (some (223, true)), .mov (.tmp 29)⟩,
    ⟨(some 225), (some (223, true)), .mov (.tmp 224)⟩,
    ⟨(some 226), (some (225, false)), .load (.tmp 28) (some 5)⟩,
    ⟨(some 227), (some (225, false)), .build [(.int .i64 0), (.int .i64 0), (.int .i64 0), (.int .i64 0), (.bool false)] []⟩,
    ⟨(some 228), (some (225, false)), .eqv false (.cells [false, false, false, false, true]) (.tmp 226) (.tmp 227)⟩,
    ⟨(some 229), (some (223, true)), .pick (.tmp 225) (.const (.bool true)) (.tmp 228)⟩,
    ⟨(some 230), none, .pick (.tmp 223) (.tmp 229) (.const (.bool false))⟩,
    ⟨(some 231), none, .mov (.tmp 230)⟩,
    ⟨(some 232), (some (231, true)), .call 11 []⟩,
    ⟨(some 233), none, .pick (.tmp 231) (.tmp 232) (.const (.bool false))⟩,
    ⟨(some 6), none, .mov (.tmp 233)⟩])
 (.ret))))))))))⟩
theorem st14 : stF Try.prog qt 14 = some il14 := by kernel_rfl
abbrev r14_0 : IL := il14.body
def c14_0 : IL := (splitS 4 r14_0).1
def r14_1 : IL := (splitS 4 r14_0).2
def c14_1 : IL := (splitS 0 r14_1).1
def r14_2 : IL := (splitS 0 r14_1).2
def body14_2 : IL := .seq (.reg [
    ⟨(some 56), none, .bin .lss (.tmp 55) (.tmp 54)⟩])
 (.seq (.ite (.tmp 56)
    (.skip)
    (.exit 2))
 (.seq (.block 3
    (.seq (.reg [
       ⟨(some 57), none, .iadr 5 none (.tmp 53) (.tmp 55)⟩,
       ⟨(some 58), none, .load (.tmp 57) (some 5)⟩,
       ⟨(some 16), none, .alloc [(.int .i64 0), (.int .i64 0), (.int .i64 0), (.int .i64 0), (.bool false)]⟩,
       ⟨none, none, .store (.tmp 16) (.tmp 58) 5⟩])
    (.seq (.reg [
       ⟨(some 59), none, .mov (.tmp 12)⟩,
       ⟨(some 60), none, .fadr 0 (.tmp 16)⟩,
       ⟨(some 61), none, .load (.tmp 60) (some 2)⟩,
       ⟨(some 62), none, .mkrow [(.int .i64 0), (.int .i64 0)] 1 [(0, 2, (.tmp 61))]⟩,
       ⟨(some 63), none, .append 2 16 (.tmp 59) (.tmp 62)⟩,
       ⟨(some 12), none, .mov (.tmp 63)⟩])
    (.reg [
      ⟨(some 64), none, .mov (.tmp 13)⟩,
      ⟨(some 65), none, .fadr 2 (.tmp 16)⟩,
      ⟨(some 66), none, .load (.tmp 65) none⟩,
      ⟨(some 67), none, .mkrow [(.int .i64 0)] 1 [(0, 1, (.tmp 66))]⟩,
      ⟨(some 68), none, .append 1 8 (.tmp 64) (.tmp 67)⟩,
      ⟨(some 13), none, .mov (.tmp 68)⟩]))))
 (.reg [
   ⟨(some 69), none, .bin .add (.tmp 55) (.const (.int .i64 1))⟩,
   ⟨(some 55), none, .mov (.tmp 69)⟩])))
def hn14u (tv : Value) (wa na la na2 la2 a1 : Option Addr) (n wc nc lc nc2 lc2 c1 j : Nat) (id h w i : Int) (x : L5) (b1 o1 : Nat) (A B X1 J J2 J3 X Y : Heap) : Hs := (.sym (.pur 22000057 (.pointer (some ⟨b1, o1, none⟩)) (.use 7000058 (.raw (.agg ⟨[(.int .i64 x.a), (.int .i64 x.b), (.int .i64 x.c), (.int .i64 x.d), (.bool x.e)]⟩)) ⟨[], []⟩ (.use 30000063 (.raw (.slice na2 (j + 1) nc2)) ⟨[(4, .seg J2)], [.seg X]⟩ (.use 30000068 (.raw (.slice la2 (j + 1) lc2)) ⟨[(4, .seg J3)], [.seg Y]⟩ .nil)))) .nil)
theorem tree14u (tv : Value) (wa na la na2 la2 a1 : Option Addr) (n wc nc lc nc2 lc2 c1 j : Nat) (id h w i : Int) (x : L5) (b1 o1 : Nat) (A B X1 J J2 J3 X Y : Heap) : pieceS tblK (gE 0) (cE 0) 300 (fun i => exL i body14_2 || inL [1, 2, 6, 8, 9, 10, 11, 12, 13, 14] i) body14_2 (hn14u tv wa na la na2 la2 a1 n wc nc lc nc2 lc2 c1 j id h w i x b1 o1 A B X1 J J2 J3 X Y) (frS 234 [(1, (.raw tv)), (2, (sI id)), (6, (sB false)), (8, (.ptr 1 0)), (9, (sI h)), (10, (sI w)), (11, (sI i)), (12, (.raw (.slice na j nc))), (13, (.raw (.slice la j lc))), (14, (.raw (.slice wa n wc))), (53, (.raw (.slice wa n wc))), (54, (sI (n : Int))), (55, (sI j))]) [.seg A, .blk .fix [(.raw (.slice a1 n c1))], .seg B, .seg X1, .seg J] =
(.br (decide (j < (n : Int)))
 (.claim (opA (Plain.env tblK (gE 0)) (.iadr 5 none (.const (.slice wa n wc)) (.const (.int .i64 j))) [] [] = some ((.pointer (some ⟨b1, o1, none⟩)), []))
 (.claim (opA (Plain.env tblK (gE 0)) (.load (.const (.pointer (some ⟨b1, o1, none⟩))) (some 5)) [] (denH [.seg A, .blk .fix [(.raw (.slice a1 n c1))], .seg B, .seg X1, .seg J]) = some ((.agg ⟨[(.int .i64 x.a), (.int .i64 x.b), (.int .i64 x.c), (.int .i64 x.d), (.bool x.e)]⟩), denH [.seg A, .blk .fix [(.raw (.slice a1 n c1))], .seg B, .seg X1, .seg J]))
 (.claim (List.length J2 = List.length J) (.claim (opA (Plain.env tblK (gE 0)) (.append 2 16 (.const (.slice na j nc)) (.const (denV (ofs [.seg A, .blk .fix [(.raw (.slice a1 n c1))], .seg B, .seg X1, .seg J, .blk .fix [(sI x.a), (sI x.b), (sI x.c), (sI x.d), (sB x.e)], .blk .fix [(sI x.a), (sI x.b)]]) (.sl 6 0 1 1)))) [] (denH [.seg A, .blk .fix [(.raw (.slice a1 n c1))], .seg B, .seg X1, .seg J, .blk .fix [(sI x.a), (sI x.b), (sI x.c), (sI x.d), (sB x.e)], .blk .fix [(sI x.a), (sI x.b)]]) = some ((.slice na2 (j + 1) nc2), denH [.seg A, .blk .fix [(.raw (.slice a1 n c1))], .seg B, .seg X1, .seg J2, .blk .fix [(sI x.a), (sI x.b), (sI x.c), (sI x.d), (sB x.e)], .blk .fix [(sI x.a), (sI x.b)], .seg X]))
 (.claim (List.length J3 = List.length J2) (.claim (opA (Plain.env tblK (gE 0)) (.append 1 8 (.const (.slice la j lc)) (.const (denV (ofs [.seg A, .blk .fix [(.raw (.slice a1 n c1))], .seg B, .seg X1, .seg J2, .blk .fix [(sI x.a), (sI x.b), (sI x.c), (sI x.d), (sB x.e)], .blk .fix [(sI x.a), (sI x.b)], .seg X, .blk .fix [(sI x.c)]]) (.sl 8 0 1 1)))) [] (denH [.seg A, .blk .fix [(.raw (.slice a1 n c1))], .seg B, .seg X1, .seg J2, .blk .fix [(sI x.a), (sI x.b), (sI x.c), (sI x.d), (sB x.e)], .blk .fix [(sI x.a), (sI x.b)], .seg X, .blk .fix [(sI x.c)]]) = some ((.slice la2 (j + 1) lc2), denH [.seg A, .blk .fix [(.raw (.slice a1 n c1))], .seg B, .seg X1, .seg J3, .blk .fix [(sI x.a), (sI x.b), (sI x.c), (sI x.d), (sB x.e)], .blk .fix [(sI x.a), (sI x.b)], .seg X, .blk .fix [(sI x.c)], .seg Y]))
 (.ret .normal (frS 234 [(1, (.raw tv)), (2, (sI id)), (6, (sB false)), (8, (.ptr 1 0)), (9, (sI h)), (10, (sI w)), (11, (sI i)), (12, (.raw (.slice na2 (j + 1) nc2))), (13, (.raw (.slice la2 (j + 1) lc2))), (14, (.raw (.slice wa n wc))), (53, (.raw (.slice wa n wc))), (54, (sI (n : Int))), (55, (sI (IntKind.wrap .i64 (j + 1))))]) [.seg A, .blk .fix [(.raw (.slice a1 n c1))], .seg B, .seg X1, .seg J3, .blk .fix [(sI x.a), (sI x.b), (sI x.c), (sI x.d), (sB x.e)], .blk .fix [(sI x.a), (sI x.b)], .seg X, .blk .fix [(sI x.c)], .seg Y])))))))
 (.ret (.exit 2) (frS 234 [(1, (.raw tv)), (2, (sI id)), (6, (sB false)), (8, (.ptr 1 0)), (9, (sI h)), (10, (sI w)), (11, (sI i)), (12, (.raw (.slice na j nc))), (13, (.raw (.slice la j lc))), (14, (.raw (.slice wa n wc))), (53, (.raw (.slice wa n wc))), (54, (sI (n : Int))), (55, (sI j))]) [.seg A, .blk .fix [(.raw (.slice a1 n c1))], .seg B, .seg X1, .seg J])) := by kernel_rfl
def body14_6 : IL := .seq (.reg [
    ⟨(some 143), none, .bin .lss (.tmp 142) (.tmp 141)⟩])
 (.seq (.ite (.tmp 143)
    (.skip)
    (.exit 6))
 (.seq (.block 7
    (.seq (.reg [
       ⟨(some 144), none, .iadr 7 none (.tmp 140) (.tmp 142)⟩,
       ⟨(some 145), none, .load (.tmp 144) (some 7)⟩,
       ⟨(some 25), none, .alloc [(.int .i64 0), (.int .i64 0), (.int .i64 0), (.int .i64 0), (.int .i64 0), (.int .i64 0), (.bool false)]⟩,
       ⟨none, none, .store (.tmp 25) (.tmp 145) 7⟩])
    (.reg [
      ⟨(some 146), none, .mov (.tmp 23)⟩,
      ⟨(some 147), none, .mov (.tmp 146)⟩,
      ⟨(some 148), (some (147, false)), .fadr 0 (.tmp 25)⟩,
      ⟨(some 149), (some (147, false)), .load (.tmp 148) none⟩,
      ⟨(some 150), (some (147, false)), .fadr 0 (.tmp 22)⟩,
      ⟨(some 151), (some (147, false)), .fadr 0 (.tmp 150)⟩,
      ⟨(some 152), (some (147, false)), .load (.tmp 151) none⟩,
      ⟨(some 153), (some (147, false)), .bin .eql (.tmp 149) (.tmp 152)⟩,
      ⟨(some 154), none, .pick (.tmp 147) (.const (.bool true)) (.tmp 153)⟩,
      ⟨(some 23), none, .mov (.tmp 154)⟩])))
 (.reg [
   ⟨(some 155), none, .bin .add (.tmp 142) (.const (.int .i64 1))⟩,
   ⟨(some 142), none, .mov (.tmp 155)⟩])))
def hn14x (tv : Value) (wa ya va a1 : Option Addr) (n wc m yc vc c1 j g : Nat) (id h w i : Int) (nm : Bool) (x : L5) (y : R7) (b1 o1 : Nat) (A B J K : Heap) : Hs := (.sym (.pur 22000144 (.pointer (some ⟨b1, o1, none⟩)) (.use 7000145 (.raw (.agg ⟨[(.int .i64 y.a), (.int .i64 y.b), (.int .i64 y.c), (.int .i64 y.d), (.int .i64 y.e), (.int .i64 y.f), (.bool y.g)]⟩)) ⟨[], []⟩ (.join 7 (.con (.con (.con (.con (.con (.con (.con .nil))))))) (.con (.con (.con (.con (.con (.con (.con .nil))))))) .nil))) .nil)
theorem tree14x (tv : Value) (wa ya va a1 : Option Addr) (n wc m yc vc c1 j g : Nat) (id h w i : Int) (nm : Bool) (x : L5) (y : R7) (b1 o1 : Nat) (A B J K : Heap) : pieceS tblK (gE 0) (cE 0) 400 (fun i => exL i body14_6 || inL [1, 2, 6, 8, 9, 10, 11, 14, 17, 21, 22, 23, 133, 134, 135] i) body14_6 (hn14x tv wa ya va a1 n wc m yc vc c1 j g id h w i nm x y b1 o1 A B J K) (frS 234 [(1, (.raw tv)), (2, (sI id)), (6, (sB false)), (8, (.ptr 1 0)), (9, (sI h)), (10, (sI w)), (11, (sI i)), (14, (.raw (.slice wa n wc))), (17, (.raw (.slice ya m yc))), (21, (sI j)), (22, (.ptr 4 0)), (23, (sB nm)), (133, (.raw (.slice va n vc))), (134, (sI (n : Int))), (135, (sI j)), (140, (.raw (.slice ya m yc))), (141, (sI (m : Int))), (142, (sI g))]) [.seg A, .blk .fix [(.raw (.slice a1 n c1))], .seg B, .seg J, .blk .fix [(sI x.a), (sI x.b), (sI x.c), (sI x.d), (sB x.e)], .seg K] =
(.br (decide (g < (m : Int)))
 (.claim (opA (Plain.env tblK (gE 0)) (.iadr 7 none (.const (.slice ya m yc)) (.const (.int .i64 g))) [] [] = some ((.pointer (some ⟨b1, o1, none⟩)), []))
 (.claim (opA (Plain.env tblK (gE 0)) (.load (.const (.pointer (some ⟨b1, o1, none⟩))) (some 7)) [] (denH [.seg A, .blk .fix [(.raw (.slice a1 n c1))], .seg B, .seg J, .blk .fix [(sI x.a), (sI x.b), (sI x.c), (sI x.d), (sB x.e)], .seg K]) = some ((.agg ⟨[(.int .i64 y.a), (.int .i64 y.b), (.int .i64 y.c), (.int .i64 y.d), (.int .i64 y.e), (.int .i64 y.f), (.bool y.g)]⟩), denH [.seg A, .blk .fix [(.raw (.slice a1 n c1))], .seg B, .seg J, .blk .fix [(sI x.a), (sI x.b), (sI x.c), (sI x.d), (sB x.e)], .seg K]))
 (.req (bif nm then true else true) (.ret .normal (frS 234 [(1, (.raw tv)), (2, (sI id)), (6, (sB false)), (8, (.ptr 1 0)), (9, (sI h)), (10, (sI w)), (11, (sI i)), (14, (.raw (.slice wa n wc))), (17, (.raw (.slice ya m yc))), (21, (sI j)), (22, (.ptr 4 0)), (23, (sB (bif nm then true else (y.a == x.a)))), (133, (.raw (.slice va n vc))), (134, (sI (n : Int))), (135, (sI j)), (140, (.raw (.slice ya m yc))), (141, (sI (m : Int))), (142, (sI (IntKind.wrap .i64 (g + 1))))]) [.seg A, .blk .fix [(.raw (.slice a1 n c1))], .seg B, .seg J, .blk .fix [(sI x.a), (sI x.b), (sI x.c), (sI x.d), (sB x.e)], .seg K, .blk .fix [(sI y.a), (sI y.b), (sI y.c), (sI y.d), (sI y.e), (sI y.f), (sB y.g)]]))))
 (.ret (.exit 6) (frS 234 [(1, (.raw tv)), (2, (sI id)), (6, (sB false)), (8, (.ptr 1 0)), (9, (sI h)), (10, (sI w)), (11, (sI i)), (14, (.raw (.slice wa n wc))), (17, (.raw (.slice ya m yc))), (21, (sI j)), (22, (.ptr 4 0)), (23, (sB nm)), (133, (.raw (.slice va n vc))), (134, (sI (n : Int))), (135, (sI j)), (140, (.raw (.slice ya m yc))), (141, (sI (m : Int))), (142, (sI g))]) [.seg A, .blk .fix [(.raw (.slice a1 n c1))], .seg B, .seg J, .blk .fix [(sI x.a), (sI x.b), (sI x.c), (sI x.d), (sB x.e)], .seg K])) := by kernel_rfl
def body14_4 : IL := .seq (.reg [
    ⟨(some 136), none, .bin .lss (.tmp 135) (.tmp 134)⟩])
 (.seq (.ite (.tmp 136)
    (.skip)
    (.exit 4))
 (.seq (.block 5
    (.seq (.reg [
       ⟨(some 137), none, .mov (.tmp 135)⟩,
       ⟨(some 138), none, .iadr 5 none (.tmp 133) (.tmp 135)⟩,
       ⟨(some 139), none, .load (.tmp 138) (some 5)⟩,
       ⟨(some 22), none, .alloc [(.int .i64 0), (.int .i64 0), (.int .i64 0), (.int .i64 0), (.bool false)]⟩,
       ⟨(some 21), none, .mov (.tmp 137)⟩,
       ⟨none, none, .store (.tmp 22) (.tmp 139) 5⟩])
    (.seq (.reg [
       ⟨(some 23), none, .mov (.const (.bool false))⟩])
    (.seq (.seq (.reg [
        ⟨(some 140), none, .mov (.tmp 17)⟩,
        ⟨(some 141), none, .len (.tmp 140)⟩,
        ⟨(some 142), none, .mov (.const (.int .i64 0))⟩])
     (.block 6
       (.loop
         (.seq (.reg [
            ⟨(some 143), none, .bin .lss (.tmp 142) (.tmp 141)⟩])
         (.seq (.ite (.tmp 143)
            (.skip)
            (.exit 6))
         (.seq (.block 7
            (.seq (.reg [
               ⟨(some 144), none, .iadr 7 none (.tmp 140) (.tmp 142)⟩,
               ⟨(some 145), none, .load (.tmp 144) (some 7)⟩,
               ⟨(some 25), none, .alloc [(.int .i64 0), (.int .i64 0), (.int .i64 0), (.int .i64 0), (.int .i64 0), (.int .i64 0), (.bool false)]⟩,
               ⟨none, none, .store (.tmp 25) (.tmp 145) 7⟩])
            (.reg [
              ⟨(some 146), none, .mov (.tmp 23)⟩,
              ⟨(some 147), none, .mov (.tmp 146)⟩,
              ⟨(some 148), (some (147, false)), .fadr 0 (.tmp 25)⟩,
              ⟨(some 149), (some (147, false)), .load (.tmp 148) none⟩,
              ⟨(some 150), (some (147, false)), .fadr 0 (.tmp 22)⟩,
              ⟨(some 151), (some (147, false)), .fadr 0 (.tmp 150)⟩,
              ⟨(some 152), (some (147, false)), .load (.tmp 151) none⟩,
              ⟨(some 153), (some (147, false)), .bin .eql (.tmp 149) (.tmp 152)⟩,
              ⟨(some 154), none, .pick (.tmp 147) (.const (.bool true)) (.tmp 153)⟩,
              ⟨(some 23), none, .mov (.tmp 154)⟩])))
         (.reg [
           ⟨(some 155), none, .bin .add (.tmp 142) (.const (.int .i64 1))⟩,
           ⟨(some 142), none, .mov (.tmp 155)⟩])))))))
    (.seq (.dreg [
       ⟨(some 156), none, .load (.tmp 22) (some 5)⟩,
       ⟨(some 157), none, .mov (.tmp 14)⟩,
       ⟨(some 158), none, .mov (.tmp 21)⟩,
       ⟨(some 159), none, .iadr 5 none (.tmp 157) (.tmp 158)⟩,
       ⟨(some 160), none, .load (.tmp 159) (some 5)⟩,
       ⟨(some 161), none, .eqv true (.cells [false, false, false, false, true]) (.tmp 156) (.tmp 160)⟩,
       ⟨(some 162), none, .mov (.tmp 161)⟩,
       ⟨(some 163), (some (162, false)), .mov (.tmp 23)⟩,
       ⟨(some 164), (some (162, false)), .un .not (.tmp 163)⟩,
       ⟨(some 165), (some (162, false)), .mov (.tmp 164)⟩,
       ⟨(some 166), (some (165, true)), .mov (.tmp 8)⟩,
       ⟨(some 167), (some (165, true)), .call 58 [(.tmp 166)]⟩,
       ⟨(some 168), (some (165, true)), .mov (.tmp 21)⟩,
       ⟨(some 169), (some (165, true)), .iadr 5 none (.tmp 167) (.tmp 168)⟩,
       ⟨(some 170), (some (165, true)), .load (.tmp 169) (some 5)⟩,
       ⟨(some 171), (some (165, true)), .load (.tmp 22) (some 5)⟩,
       ⟨(some 172), (some (165, true)), .eqv true (.cells [false, false, false, false, true]) (.tmp 170) (.tmp 171)⟩,
       ⟨(some 173), (some (162, false)), .pick (.tmp 165) (.tmp 172) (.const (.bool false))⟩,
       ⟨(some 174), none, .pick (.tmp 162) (.const (.bool true)) (.tmp 173)⟩] [(15, 11)])
    (.ite (.tmp 174)
      (.seq (.reg [
         ⟨(some 6), none, .mov (.const (.bool false))⟩])
      (.ret))
      (.skip)))))))
 (.reg [
   ⟨(some 175), none, .bin .add (.tmp 135) (.const (.int .i64 1))⟩,
   ⟨(some 135), none, .mov (.tmp 175)⟩])))
def hn14vtrue (tv : Value) (wa ya va ea a1 : Option Addr) (n wc m yc vc ec c1 j : Nat) (id h w i : Int) (x : L5) (b1 o1 b2 o2 b3 o3 : Nat) (A B J Y Z : Heap) : Hs := (.sym (.pur 22000138 (.pointer (some ⟨b1, o1, none⟩)) (.use 7000139 (.raw (.agg ⟨[(.int .i64 x.a), (.int .i64 x.b), (.int .i64 x.c), (.int .i64 x.d), (.bool x.e)]⟩)) ⟨[], []⟩ (.lp 6 [1, 2, 6, 8, 9, 10, 11, 14, 17, 21, 22, 23, 133, 134, 135] (frS 234 [(1, (.raw tv)), (2, (sI id)), (6, (sB false)), (8, (.ptr 1 0)), (9, (sI h)), (10, (sI w)), (11, (sI i)), (14, (.raw (.slice wa n wc))), (17, (.raw (.slice ya m yc))), (21, (sI j)), (22, (.ptr 4 0)), (23, (sB true)), (133, (.raw (.slice va n vc))), (134, (sI (n : Int))), (135, (sI j))]) ⟨[], [.seg Y]⟩ (.crs [none, none, none, some ((.raw (.pointer (some ⟨b2, o2, none⟩))), ⟨[], []⟩), some ((.raw (.agg ⟨[(.int .i64 x.a), (.int .i64 x.b), (.int .i64 x.c), (.int .i64 x.d), (.bool x.e)]⟩)), ⟨[], []⟩), some ((sB false), ⟨[], []⟩), none, none, none, none, none, none, none, none, none, none, none, none, none] (.con .nil))))) .nil)
theorem tree14vtrue (tv : Value) (wa ya va ea a1 : Option Addr) (n wc m yc vc ec c1 j : Nat) (id h w i : Int) (x : L5) (b1 o1 b2 o2 b3 o3 : Nat) (A B J Y Z : Heap) : pieceS tblK (gE 0) (cE 0) 400 (fun i => exL i body14_4 || inL [1, 2, 6, 8, 9, 10, 11, 17] i) body14_4 (hn14vtrue tv wa ya va ea a1 n wc m yc vc ec c1 j id h w i x b1 o1 b2 o2 b3 o3 A B J Y Z) (frS 234 [(1, (.raw tv)), (2, (sI id)), (6, (sB false)), (8, (.ptr 1 0)), (9, (sI h)), (10, (sI w)), (11, (sI i)), (14, (.raw (.slice wa n wc))), (17, (.raw (.slice ya m yc))), (133, (.raw (.slice va n vc))), (134, (sI (n : Int))), (135, (sI j))]) [.seg A, .blk .fix [(.raw (.slice a1 n c1))], .seg B, .seg J] =
(.br (decide (j < (n : Int)))
 (.claim (opA (Plain.env tblK (gE 0)) (.iadr 5 none (.const (.slice va n vc)) (.const (.int .i64 j))) [] [] = some ((.pointer (some ⟨b1, o1, none⟩)), []))
 (.claim (opA (Plain.env tblK (gE 0)) (.load (.const (.pointer (some ⟨b1, o1, none⟩))) (some 5)) [] (denH [.seg A, .blk .fix [(.raw (.slice a1 n c1))], .seg B, .seg J]) = some ((.agg ⟨[(.int .i64 x.a), (.int .i64 x.b), (.int .i64 x.c), (.int .i64 x.d), (.bool x.e)]⟩), denH [.seg A, .blk .fix [(.raw (.slice a1 n c1))], .seg B, .seg J]))
 (.claim (Wp (Plain.env tblK (gE 0)) (inL [1, 2, 6, 8, 9, 10, 11, 14, 17, 21, 22, 23, 133, 134, 135]) (.block 6 (.loop body14_6)) (denF [.seg A, .blk .fix [(.raw (.slice a1 n c1))], .seg B, .seg J, .blk .fix [(sI x.a), (sI x.b), (sI x.c), (sI x.d), (sB x.e)]] (frS 234 [(1, (.raw tv)), (2, (sI id)), (6, (sB false)), (8, (.ptr 1 0)), (9, (sI h)), (10, (sI w)), (11, (sI i)), (14, (.raw (.slice wa n wc))), (17, (.raw (.slice ya m yc))), (21, (sI j)), (22, (.ptr 4 0)), (23, (sB false)), (133, (.raw (.slice va n vc))), (134, (sI (n : Int))), (135, (sI j)), (140, (.raw (.slice ya m yc))), (141, (sI (m : Int))), (142, (sI 0))])) (denH [.seg A, .blk .fix [(.raw (.slice a1 n c1))], .seg B, .seg J, .blk .fix [(sI x.a), (sI x.b), (sI x.c), (sI x.d), (sB x.e)]]) fun e_ s_ h_ => e_ = .normal ∧ s_ = denF [.seg A, .blk .fix [(.raw (.slice a1 n c1))], .seg B, .seg J, .blk .fix [(sI x.a), (sI x.b), (sI x.c), (sI x.d), (sB x.e)], .seg Y] (frS 234 [(1, (.raw tv)), (2, (sI id)), (6, (sB false)), (8, (.ptr 1 0)), (9, (sI h)), (10, (sI w)), (11, (sI i)), (14, (.raw (.slice wa n wc))), (17, (.raw (.slice ya m yc))), (21, (sI j)), (22, (.ptr 4 0)), (23, (sB true)), (133, (.raw (.slice va n vc))), (134, (sI (n : Int))), (135, (sI j))]) ∧ h_ = denH [.seg A, .blk .fix [(.raw (.slice a1 n c1))], .seg B, .seg J, .blk .fix [(sI x.a), (sI x.b), (sI x.c), (sI x.d), (sB x.e)], .seg Y])
 (.req true (.req true (.req true (.claim (opA (Plain.env tblK (gE 0)) (.iadr 5 none (.const (.slice wa n wc)) (.const (.int .i64 j))) [] (denH [.seg A, .blk .fix [(.raw (.slice a1 n c1))], .seg B, .seg J, .blk .fix [(sI x.a), (sI x.b), (sI x.c), (sI x.d), (sB x.e)], .seg Y]) = some ((.pointer (some ⟨b2, o2, none⟩)), denH [.seg A, .blk .fix [(.raw (.slice a1 n c1))], .seg B, .seg J, .blk .fix [(sI x.a), (sI x.b), (sI x.c), (sI x.d), (sB x.e)], .seg Y]))
 (.claim (opA (Plain.env tblK (gE 0)) (.load (.const (.pointer (some ⟨b2, o2, none⟩))) (some 5)) [] (denH [.seg A, .blk .fix [(.raw (.slice a1 n c1))], .seg B, .seg J, .blk .fix [(sI x.a), (sI x.b), (sI x.c), (sI x.d), (sB x.e)], .seg Y]) = some ((.agg ⟨[(.int .i64 x.a), (.int .i64 x.b), (.int .i64 x.c), (.int .i64 x.d), (.bool x.e)]⟩), denH [.seg A, .blk .fix [(.raw (.slice a1 n c1))], .seg B, .seg J, .blk .fix [(sI x.a), (sI x.b), (sI x.c), (sI x.d), (sB x.e)], .seg Y]))
 (.claim (opA (Plain.env tblK (gE 0)) (.eqv true (.cells [false, false, false, false, true]) (.const (.agg ⟨[(.int .i64 x.a), (.int .i64 x.b), (.int .i64 x.c), (.int .i64 x.d), (.bool x.e)]⟩)) (.const (.agg ⟨[(.int .i64 x.a), (.int .i64 x.b), (.int .i64 x.c), (.int .i64 x.d), (.bool x.e)]⟩))) [] (denH [.seg A, .blk .fix [(.raw (.slice a1 n c1))], .seg B, .seg J, .blk .fix [(sI x.a), (sI x.b), (sI x.c), (sI x.d), (sB x.e)], .seg Y]) = some ((.bool false), denH [.seg A, .blk .fix [(.raw (.slice a1 n c1))], .seg B, .seg J, .blk .fix [(sI x.a), (sI x.b), (sI x.c), (sI x.d), (sB x.e)], .seg Y]))
 (.req true (.req true (.req true (.req true (.req true (.req true (.ret .normal (frS 234 [(1, (.raw tv)), (2, (sI id)), (6, (sB false)), (8, (.ptr 1 0)), (9, (sI h)), (10, (sI w)), (11, (sI i)), (14, (.raw (.slice wa n wc))), (17, (.raw (.slice ya m yc))), (133, (.raw (.slice va n vc))), (134, (sI (n : Int))), (135, (sI (IntKind.wrap .i64 (j + 1))))]) [.seg A, .blk .fix [(.raw (.slice a1 n c1))], .seg B, .seg J, .blk .fix [(sI x.a), (sI x.b), (sI x.c), (sI x.d), (sB x.e)], .seg Y]))))))))))))))))
 (.ret (.exit 4) (frS 234 [(1, (.raw tv)), (2, (sI id)), (6, (sB false)), (8, (.ptr 1 0)), (9, (sI h)), (10, (sI w)), (11, (sI i)), (14, (.raw (.slice wa n wc))), (17, (.raw (.slice ya m yc))), (133, (.raw (.slice va n vc))), (134, (sI (n : Int))), (135, (sI j))]) [.seg A, .blk .fix [(.raw (.slice a1 n c1))], .seg B, .seg J])) := by kernel_rfl
def hn14vfalse (tv : Value) (wa ya va ea a1 : Option Addr) (n wc m yc vc ec c1 j : Nat) (id h w i : Int) (x : L5) (b1 o1 b2 o2 b3 o3 : Nat) (A B J Y Z : Heap) : Hs := (.sym (.pur 22000138 (.pointer (some ⟨b1, o1, none⟩)) (.use 7000139 (.raw (.agg ⟨[(.int .i64 x.a), (.int .i64 x.b), (.int .i64 x.c), (.int .i64 x.d), (.bool x.e)]⟩)) ⟨[], []⟩ (.lp 6 [1, 2, 6, 8, 9, 10, 11, 14, 17, 21, 22, 23, 133, 134, 135] (frS 234 [(1, (.raw tv)), (2, (sI id)), (6, (sB false)), (8, (.ptr 1 0)), (9, (sI h)), (10, (sI w)), (11, (sI i)), (14, (.raw (.slice wa n wc))), (17, (.raw (.slice ya m yc))), (21, (sI j)), (22, (.ptr 4 0)), (23, (sB false)), (133, (.raw (.slice va n vc))), (134, (sI (n : Int))), (135, (sI j))]) ⟨[], [.seg Y]⟩ (.crs [none, none, none, some ((.raw (.pointer (some ⟨b2, o2, none⟩))), ⟨[], []⟩), some ((.raw (.agg ⟨[(.int .i64 x.a), (.int .i64 x.b), (.int .i64 x.c), (.int .i64 x.d), (.bool x.e)]⟩)), ⟨[], []⟩), some ((sB false), ⟨[], []⟩), none, none, none, none, none, some ((.raw (.slice ea n ec)), ⟨[], [.seg Z]⟩), none, some ((.raw (.pointer (some ⟨b3, o3, none⟩))), ⟨[], []⟩), some ((.raw (.agg ⟨[(.int .i64 x.a), (.int .i64 x.b), (.int .i64 x.c), (.int .i64 x.d), (.bool x.e)]⟩)), ⟨[], []⟩), none, some ((sB false), ⟨[], []⟩), none, none] (.con .nil))))) .nil)
theorem tree14vfalse (tv : Value) (wa ya va ea a1 : Option Addr) (n wc m yc vc ec c1 j : Nat) (id h w i : Int) (x : L5) (b1 o1 b2 o2 b3 o3 : Nat) (A B J Y Z : Heap) : pieceS tblK (gE 0) (cE 0) 400 (fun i => exL i body14_4 || inL [1, 2, 6, 8, 9, 10, 11, 17] i) body14_4 (hn14vfalse tv wa ya va ea a1 n wc m yc vc ec c1 j id h w i x b1 o1 b2 o2 b3 o3 A B J Y Z) (frS 234 [(1, (.raw tv)), (2, (sI id)), (6, (sB false)), (8, (.ptr 1 0)), (9, (sI h)), (10, (sI w)), (11, (sI i)), (14, (.raw (.slice wa n wc))), (17, (.raw (.slice ya m yc))), (133, (.raw (.slice va n vc))), (134, (sI (n : Int))), (135, (sI j))]) [.seg A, .blk .fix [(.raw (.slice a1 n c1))], .seg B, .seg J] =
(.br (decide (j < (n : Int)))
 (.claim (opA (Plain.env tblK (gE 0)) (.iadr 5 none (.const (.slice va n vc)) (.const (.int .i64 j))) [] [] = some ((.pointer (some ⟨b1, o1, none⟩)), []))
 (.claim (opA (Plain.env tblK (gE 0)) (.load (.const (.pointer (some ⟨b1, o1, none⟩))) (some 5)) [] (denH [.seg A, .blk .fix [(.raw (.slice a1 n c1))], .seg B, .seg J]) = some ((.agg ⟨[(.int .i64 x.a), (.int .i64 x.b), (.int .i64 x.c), (.int .i64 x.d), (.bool x.e)]⟩), denH [.seg A, .blk .fix [(.raw (.slice a1 n c1))], .seg B, .seg J]))
 (.claim (Wp (Plain.env tblK (gE 0)) (inL [1, 2, 6, 8, 9, 10, 11, 14, 17, 21, 22, 23, 133, 134, 135]) (.block 6 (.loop body14_6)) (denF [.seg A, .blk .fix [(.raw (.slice a1 n c1))], .seg B, .seg J, .blk .fix [(sI x.a), (sI x.b), (sI x.c), (sI x.d), (sB x.e)]] (frS 234 [(1, (.raw tv)), (2, (sI id)), (6, (sB false)), (8, (.ptr 1 0)), (9, (sI h)), (10, (sI w)), (11, (sI i)), (14, (.raw (.slice wa n wc))), (17, (.raw (.slice ya m yc))), (21, (sI j)), (22, (.ptr 4 0)), (23, (sB false)), (133, (.raw (.slice va n vc))), (134, (sI (n : Int))), (135, (sI j)), (140, (.raw (.slice ya m yc))), (141, (sI (m : Int))), (142, (sI 0))])) (denH [.seg A, .blk .fix [(.raw (.slice a1 n c1))], .seg B, .seg J, .blk .fix [(sI x.a), (sI x.b), (sI x.c), (sI x.d), (sB x.e)]]) fun e_ s_ h_ => e_ = .normal ∧ s_ = denF [.seg A, .blk .fix [(.raw (.slice a1 n c1))], .seg B, .seg J, .blk .fix [(sI x.a), (sI x.b), (sI x.c), (sI x.d), (sB x.e)], .seg Y] (frS 234 [(1, (.raw tv)), (2, (sI id)), (6, (sB false)), (8, (.ptr 1 0)), (9, (sI h)), (10, (sI w)), (11, (sI i)), (14, (.raw (.slice wa n wc))), (17, (.raw (.slice ya m yc))), (21, (sI j)), (22, (.ptr 4 0)), (23, (sB false)), (133, (.raw (.slice va n vc))), (134, (sI (n : Int))), (135, (sI j))]) ∧ h_ = denH [.seg A, .blk .fix [(.raw (.slice a1 n c1))], .seg B, .seg J, .blk .fix [(sI x.a), (sI x.b), (sI x.c), (sI x.d), (sB x.e)], .seg Y])
 (.req true (.req true (.req true (.claim (opA (Plain.env tblK (gE 0)) (.iadr 5 none (.const (.slice wa n wc)) (.const (.int .i64 j))) [] (denH [.seg A, .blk .fix [(.raw (.slice a1 n c1))], .seg B, .seg J, .blk .fix [(sI x.a), (sI x.b), (sI x.c), (sI x.d), (sB x.e)], .seg Y]) = some ((.pointer (some ⟨b2, o2, none⟩)), denH [.seg A, .blk .fix [(.raw (.slice a1 n c1))], .seg B, .seg J, .blk .fix [(sI x.a), (sI x.b), (sI x.c), (sI x.d), (sB x.e)], .seg Y]))
 (.claim (opA (Plain.env tblK (gE 0)) (.load (.const (.pointer (some ⟨b2, o2, none⟩))) (some 5)) [] (denH [.seg A, .blk .fix [(.raw (.slice a1 n c1))], .seg B, .seg J, .blk .fix [(sI x.a), (sI x.b), (sI x.c), (sI x.d), (sB x.e)], .seg Y]) = some ((.agg ⟨[(.int .i64 x.a), (.int .i64 x.b), (.int .i64 x.c), (.int .i64 x.d), (.bool x.e)]⟩), denH [.seg A, .blk .fix [(.raw (.slice a1 n c1))], .seg B, .seg J, .blk .fix [(sI x.a), (sI x.b), (sI x.c), (sI x.d), (sB x.e)], .seg Y]))
 (.claim (opA (Plain.env tblK (gE 0)) (.eqv true (.cells [false, false, false, false, true]) (.const (.agg ⟨[(.int .i64 x.a), (.int .i64 x.b), (.int .i64 x.c), (.int .i64 x.d), (.bool x.e)]⟩)) (.const (.agg ⟨[(.int .i64 x.a), (.int .i64 x.b), (.int .i64 x.c), (.int .i64 x.d), (.bool x.e)]⟩))) [] (denH [.seg A, .blk .fix [(.raw (.slice a1 n c1))], .seg B, .seg J, .blk .fix [(sI x.a), (sI x.b), (sI x.c), (sI x.d), (sB x.e)], .seg Y]) = some ((.bool false), denH [.seg A, .blk .fix [(.raw (.slice a1 n c1))], .seg B, .seg J, .blk .fix [(sI x.a), (sI x.b), (sI x.c), (sI x.d), (sB x.e)], .seg Y]))
 (.req true (.req true (.req true (.req true (.req true (.claim (opA (Plain.env tblK (gE 0)) (.call 58 [(.const (denV (ofs [.seg A, .blk .fix [(.raw (.slice a1 n c1))], .seg B, .seg J, .blk .fix [(sI x.a), (sI x.b), (sI x.c), (sI x.d), (sB x.e)], .seg Y]) (.ptr 1 0)))]) [] (denH [.seg A, .blk .fix [(.raw (.slice a1 n c1))], .seg B, .seg J, .blk .fix [(sI x.a), (sI x.b), (sI x.c), (sI x.d), (sB x.e)], .seg Y]) = some ((.slice ea n ec), denH [.seg A, .blk .fix [(.raw (.slice a1 n c1))], .seg B, .seg J, .blk .fix [(sI x.a), (sI x.b), (sI x.c), (sI x.d), (sB x.e)], .seg Y, .seg Z]))
 (.req true (.claim (opA (Plain.env tblK (gE 0)) (.iadr 5 none (.const (.slice ea n ec)) (.const (.int .i64 j))) [] (denH [.seg A, .blk .fix [(.raw (.slice a1 n c1))], .seg B, .seg J, .blk .fix [(sI x.a), (sI x.b), (sI x.c), (sI x.d), (sB x.e)], .seg Y, .seg Z]) = some ((.pointer (some ⟨b3, o3, none⟩)), denH [.seg A, .blk .fix [(.raw (.slice a1 n c1))], .seg B, .seg J, .blk .fix [(sI x.a), (sI x.b), (sI x.c), (sI x.d), (sB x.e)], .seg Y, .seg Z]))
 (.claim (opA (Plain.env tblK (gE 0)) (.load (.const (.pointer (some ⟨b3, o3, none⟩))) (some 5)) [] (denH [.seg A, .blk .fix [(.raw (.slice a1 n c1))], .seg B, .seg J, .blk .fix [(sI x.a), (sI x.b), (sI x.c), (sI x.d), (sB x.e)], .seg Y, .seg Z]) = some ((.agg ⟨[(.int .i64 x.a), (.int .i64 x.b), (.int .i64 x.c), (.int .i64 x.d), (.bool x.e)]⟩), denH [.seg A, .blk .fix [(.raw (.slice a1 n c1))], .seg B, .seg J, .blk .fix [(sI x.a), (sI x.b), (sI x.c), (sI x.d), (sB x.e)], .seg Y, .seg Z]))
 (.req true (.claim (opA (Plain.env tblK (gE 0)) (.eqv true (.cells [false, false, false, false, true]) (.const (.agg ⟨[(.int .i64 x.a), (.int .i64 x.b), (.int .i64 x.c), (.int .i64 x.d), (.bool x.e)]⟩)) (.const (.agg ⟨[(.int .i64 x.a), (.int .i64 x.b), (.int .i64 x.c), (.int .i64 x.d), (.bool x.e)]⟩))) [] (denH [.seg A, .blk .fix [(.raw (.slice a1 n c1))], .seg B, .seg J, .blk .fix [(sI x.a), (sI x.b), (sI x.c), (sI x.d), (sB x.e)], .seg Y, .seg Z]) = some ((.bool false), denH [.seg A, .blk .fix [(.raw (.slice a1 n c1))], .seg B, .seg J, .blk .fix [(sI x.a), (sI x.b), (sI x.c), (sI x.d), (sB x.e)], .seg Y, .seg Z]))
 (.req true (.req true (.req ((decide (x.a = x.a)) && ((decide (x.b = x.b)) && ((decide (x.c = x.c)) && ((decide (x.d = x.d)) && ((x.e == x.e) && true))))) (.ret .normal (frS 234 [(1, (.raw tv)), (2, (sI id)), (6, (sB false)), (8, (.ptr 1 0)), (9, (sI h)), (10, (sI w)), (11, (sI i)), (14, (.raw (.slice wa n wc))), (17, (.raw (.slice ya m yc))), (133, (.raw (.slice va n vc))), (134, (sI (n : Int))), (135, (sI (IntKind.wrap .i64 (j + 1))))]) [.seg A, .blk .fix [(.raw (.slice a1 n c1))], .seg B, .seg J, .blk .fix [(sI x.a), (sI x.b), (sI x.c), (sI x.d), (sB x.e)], .seg Y, .seg Z]))))))))))))))))))))))))
 (.ret (.exit 4) (frS 234 [(1, (.raw tv)), (2, (sI id)), (6, (sB false)), (8, (.ptr 1 0)), (9, (sI h)), (10, (sI w)), (11, (sI i)), (14, (.raw (.slice wa n wc))), (17, (.raw (.slice ya m yc))), (133, (.raw (.slice va n vc))), (134, (sI (n : Int))), (135, (sI j))]) [.seg A, .blk .fix [(.raw (.slice a1 n c1))], .seg B, .seg J])) := by kernel_rfl
def body14_8 : IL := .seq (.reg [
    ⟨(some 203), none, .bin .lss (.tmp 202) (.tmp 201)⟩])
 (.seq (.ite (.tmp 203)
    (.skip)
    (.exit 8))
 (.seq (.block 9
    (.seq (.reg [
       ⟨(some 204), none, .iadr 5 none (.tmp 200) (.tmp 202)⟩,
       ⟨(some 205), none, .load (.tmp 204) (some 5)⟩,
       ⟨(some 32), none, .alloc [(.int .i64 0), (.int .i64 0), (.int .i64 0), (.int .i64 0), (.bool false)]⟩,
       ⟨none, none, .store (.tmp 32) (.tmp 205) 5⟩])
    (.reg [
      ⟨(some 206), none, .mov (.tmp 30)⟩,
      ⟨(some 207), none, .mov (.tmp 206)⟩,
      ⟨(some 208), (some (207, false)), .fadr 0 (.tmp 32)⟩,
      ⟨(some 209), (some (207, false)), .fadr 0 (.tmp 208)⟩,
      ⟨(some 210), (some (207, false)), .load (.tmp 209) none⟩,
      ⟨(some 211), (some (207, false)), .mov (.tmp 2)⟩,
      ⟨(some 212), (some (207, false)), .bin .eql (.tmp 210) (.tmp 211)⟩,
      ⟨(some 213), (some (207, false)), .mov (.tmp 212)⟩,
      ⟨(some 214), (some (213, true)), .load (.tmp 32) (some 5)⟩,
      ⟨(some 215), (some (213, true)), .load (.tmp 28) (some 5)⟩,
      ⟨(some 216), (some (213, true)), .eqv false (.cells [false, false, false, false, true]) (.tmp 214) (.tmp 215)⟩,
      ⟨(some 217), (some (207, false)), .pick (.tmp 213) (.tmp 216) (.const (.bool false))⟩,
      ⟨(some 218), none, .pick (.tmp 207) (.const (.bool true)) (.tmp 217)⟩,
      ⟨(some 30), none, .mov (.tmp 218)⟩])))
 (.reg [
   ⟨(some 219), none, .bin .add (.tmp 202) (.const (.int .i64 1))⟩,
   ⟨(some 202), none, .mov (.tmp 219)⟩])))
def hn14z (id : Int) (ea a1 : Option Addr) (n ec c1 j : Nat) (ok nm : Bool) (x y : L5) (b1 o1 : Nat) (A B X J : Heap) : Hs := (.sym (.pur 22000204 (.pointer (some ⟨b1, o1, none⟩)) (.use 7000205 (.raw (.agg ⟨[(.int .i64 y.a), (.int .i64 y.b), (.int .i64 y.c), (.int .i64 y.d), (.bool y.e)]⟩)) ⟨[], []⟩ (.join 11 (.con (.con (.con (.con (.con (.con (.con (.con (.con (.con (.con .nil))))))))))) (.con (.con (.con (.con (.con (.con (.join 4 (.con (.con (.con (.con (.con .nil))))) (.con (.con (.con (.con (.con .nil))))) (.con .nil)))))))) .nil))) .nil)
theorem tree14z (id : Int) (ea a1 : Option Addr) (n ec c1 j : Nat) (ok nm : Bool) (x y : L5) (b1 o1 : Nat) (A B X J : Heap) : pieceS tblK (gE 0) (cE 0) 400 (fun i => exL i body14_8 || inL [6, 28, 29, 30] i) body14_8 (hn14z id ea a1 n ec c1 j ok nm x y b1 o1 A B X J) (frS 234 [(2, (sI id)), (6, (sB false)), (28, (.ptr 3 0)), (29, (sB ok)), (30, (sB nm)), (200, (.raw (.slice ea n ec))), (201, (sI (n : Int))), (202, (sI j))]) [.seg A, .blk .fix [(.raw (.slice a1 n c1))], .seg B, .blk .fix [(sI x.a), (sI x.b), (sI x.c), (sI x.d), (sB x.e)], .seg X, .seg J] =
(.br (decide (j < (n : Int)))
 (.claim (opA (Plain.env tblK (gE 0)) (.iadr 5 none (.const (.slice ea n ec)) (.const (.int .i64 j))) [] [] = some ((.pointer (some ⟨b1, o1, none⟩)), []))
 (.claim (opA (Plain.env tblK (gE 0)) (.load (.const (.pointer (some ⟨b1, o1, none⟩))) (some 5)) [] (denH [.seg A, .blk .fix [(.raw (.slice a1 n c1))], .seg B, .blk .fix [(sI x.a), (sI x.b), (sI x.c), (sI x.d), (sB x.e)], .seg X, .seg J]) = some ((.agg ⟨[(.int .i64 y.a), (.int .i64 y.b), (.int .i64 y.c), (.int .i64 y.d), (.bool y.e)]⟩), denH [.seg A, .blk .fix [(.raw (.slice a1 n c1))], .seg B, .blk .fix [(sI x.a), (sI x.b), (sI x.c), (sI x.d), (sB x.e)], .seg X, .seg J]))
 (.req (bif nm then true else ((bif (y.a == id) then true else true) && true)) (.ret .normal (frS 234 [(2, (sI id)), (6, (sB false)), (28, (.ptr 3 0)), (29, (sB ok)), (30, (sB (bif nm then true else (bif (y.a == id) then ((y.a == x.a) && ((y.b == x.b) && ((y.c == x.c) && ((y.d == x.d) && ((y.e == x.e) && true))))) else false)))), (200, (.raw (.slice ea n ec))), (201, (sI (n : Int))), (202, (sI (IntKind.wrap .i64 (j + 1))))]) [.seg A, .blk .fix [(.raw (.slice a1 n c1))], .seg B, .blk .fix [(sI x.a), (sI x.b), (sI x.c), (sI x.d), (sB x.e)], .seg X, .seg J, .blk .fix [(sI y.a), (sI y.b), (sI y.c), (sI y.d), (sB y.e)]]))))
 (.ret (.exit 8) (frS 234 [(2, (sI id)), (6, (sB false)), (28, (.ptr 3 0)), (29, (sB ok)), (30, (sB nm)), (200, (.raw (.slice ea n ec))), (201, (sI (n : Int))), (202, (sI j))]) [.seg A, .blk .fix [(.raw (.slice a1 n c1))], .seg B, .blk .fix [(sI x.a), (sI x.b), (sI x.c), (sI x.d), (sB x.e)], .seg X, .seg J])) := by kernel_rfl
theorem loopU {A B X1 : Heap} {a1 wa : Option Addr} {c1 wc : Nat} {l : List L5} {tv : Value} {id h w i : Int} (hw : RowsW 5 (denH [.seg A, .blk .fix [(.raw (.slice a1 l.length c1))], .seg B, .seg X1]) (.slice wa l.length wc) (l.map e5)) (hm : l.length ≤ 1000) :
    Wp (Plain.env tblK (gE 0)) (inL [1, 2, 6, 8, 9, 10, 11, 12, 13, 14]) (.block 2 (.loop body14_2)) (denF [.seg A, .blk .fix [(.raw (.slice a1 l.length c1))], .seg B, .seg X1] (frS 234 [(1, (.raw tv)), (2, (sI id)), (6, (sB false)), (8, (.ptr 1 0)), (9, (sI h)), (10, (sI w)), (11, (sI i)), (12, (.raw (.slice none 0 0))), (13, (.raw (.slice none 0 0))), (14, (.raw (.slice wa l.length wc))), (53, (.raw (.slice wa l.length wc))), (54, (sI (l.length : Int))), (55, (sI 0))])) (denH [.seg A, .blk .fix [(.raw (.slice a1 l.length c1))], .seg B, .seg X1]) fun e t hh => ∃ (X2 : Heap) (na la : Option Addr) (nc lc : Nat), e = .normal ∧ t = denF [.seg A, .blk .fix [(.raw (.slice a1 l.length c1))], .seg B, .seg X1, .seg X2] (frS 234 [(1, (.raw tv)), (2, (sI id)), (6, (sB false)), (8, (.ptr 1 0)), (9, (sI h)), (10, (sI w)), (11, (sI i)), (12, (.raw (.slice na l.length nc))), (13, (.raw (.slice la l.length lc))), (14, (.raw (.slice wa l.length wc)))]) ∧ hh = denH [.seg A, .blk .fix [(.raw (.slice a1 l.length c1))], .seg B, .seg X1, .seg X2] ∧
      LsT 2 (denH [.seg A, .blk .fix [(.raw (.slice a1 l.length c1))], .seg B, .seg X1]) X2 (.slice na l.length nc) ((nowOf l).map e2) ∧ LsT 1 (denH [.seg A, .blk .fix [(.raw (.slice a1 l.length c1))], .seg B, .seg X1]) X2 (.slice la l.length lc) ((lostOf l).map ir) := by
  refine Wp.bl (fun m t hh => ∃ (j : Nat) (J : Heap) (na la : Option Addr) (nc lc : Nat), j + m = l.length ∧ t = denF [.seg A, .blk .fix [(.raw (.slice a1 l.length c1))], .seg B, .seg X1, .seg J] (frS 234 [(1, (.raw tv)), (2, (sI id)), (6, (sB false)), (8, (.ptr 1 0)), (9, (sI h)), (10, (sI w)), (11, (sI i)), (12, (.raw (.slice na j nc))), (13, (.raw (.slice la j lc))), (14, (.raw (.slice wa l.length wc))), (53, (.raw (.slice wa l.length wc))), (54, (sI (l.length : Int))), (55, (sI j))]) ∧ hh = denH [.seg A, .blk .fix [(.raw (.slice a1 l.length c1))], .seg B, .seg X1, .seg J] ∧
      LsT 2 (denH [.seg A, .blk .fix [(.raw (.slice a1 l.length c1))], .seg B, .seg X1]) J (.slice na j nc) ((nowOf (l.take j)).map e2) ∧ LsT 1 (denH [.seg A, .blk .fix [(.raw (.slice a1 l.length c1))], .seg B, .seg X1]) J (.slice la j lc) ((lostOf (l.take j)).map ir)) ?_ l.length _ _
    ⟨0, [], none, none, 0, 0, by omega, by show denF _ _ = denF _ _; kernel_rfl, by simp [denH, denL, It.den, den0], .inl ⟨rfl, rfl⟩, .inl ⟨rfl, rfl⟩⟩
  rintro m t hh ⟨j, J, na, la, nc, lc, hj, rfl, rfl, h2, h1⟩
  obtain ⟨HH, eH⟩ : ∃ HH, HH = denH [.seg A, .blk .fix [(.raw (.slice a1 l.length c1))], .seg B, .seg X1] := ⟨_, rfl⟩
  by_cases hlt : j < l.length
  · obtain ⟨x, hx⟩ := getE hlt
    have l2 : ((nowOf (l.take j)).map e2).length = j := by simp [nowOf]; omega
    have l1 : ((lostOf (l.take j)).map ir).length = j := by simp [lostOf]; omega
    have eJ : denH [.seg A, .blk .fix [(.raw (.slice a1 l.length c1))], .seg B, .seg X1, .seg J] = HH ++ J := by rw [eH]; simp [denH, denL, It.den, den0]
    have hw1 : RowsW 5 (denH [.seg A, .blk .fix [(.raw (.slice a1 l.length c1))], .seg B, .seg X1, .seg J]) (.slice wa l.length wc) (l.map e5) := by rw [eJ, eH]; exact hw.app _
    obtain ⟨b1, o1, r1⟩ := hw1.rowM hx
    rw [← eH] at h2 h1
    -- the first append
    have e6 : denH [.seg A, .blk .fix [(.raw (.slice a1 l.length c1))], .seg B, .seg X1, .seg J, .blk .fix [(sI x.a), (sI x.b), (sI x.c), (sI x.d), (sB x.e)], .blk .fix [(sI x.a), (sI x.b)]] = HH ++ (J ++ [some ⟨.fix, e5 x⟩, some ⟨.fix, [.int .i64 x.a, .int .i64 x.b]⟩]) := by rw [eH]; simp [denH, denL, It.den, den0, e5]
    have s6 := src_item (I := [.seg A, .blk .fix [(.raw (.slice a1 l.length c1))], .seg B, .seg X1, .seg J, .blk .fix [(sI x.a), (sI x.b), (sI x.c), (sI x.d), (sB x.e)], .blk .fix [(sI x.a), (sI x.b)]]) (k := 6) (o := 0) (n := 1) (c := 1) (w := 2) rfl (by simp)
    rw [e6] at s6
    obtain ⟨J2, q1, q2, q3⟩ := h2.app (w' := 1) (eby := 16) (by decide) h1 (x := denV (ofs [.seg A, .blk .fix [(.raw (.slice a1 l.length c1))], .seg B, .seg X1, .seg J, .blk .fix [(sI x.a), (sI x.b), (sI x.c), (sI x.d), (sB x.e)], .blk .fix [(sI x.a), (sI x.b)]]) (.sl 6 0 1 1)) (R := [some ⟨.fix, e5 x⟩, some ⟨.fix, [.int .i64 x.a, .int .i64 x.b]⟩]) (row := e2 ⟨x.a, x.b⟩) s6 rfl (by decide) (by rw [l2]; omega) (by rw [l2]; omega)
    rw [l2] at q2
    -- the second append
    obtain ⟨g2, eg2⟩ : ∃ g2 : Option Blk, g2 = some ⟨.grown 2, ((nowOf (l.take j)).map e2 ++ [e2 ⟨x.a, x.b⟩]).flatten⟩ := ⟨_, rfl⟩
    rw [← eg2] at q2
    have e8 : denH [.seg A, .blk .fix [(.raw (.slice a1 l.length c1))], .seg B, .seg X1, .seg J2, .blk .fix [(sI x.a), (sI x.b), (sI x.c), (sI x.d), (sB x.e)], .blk .fix [(sI x.a), (sI x.b)], .seg [g2], .blk .fix [(sI x.c)]] = HH ++ (J2 ++ [some ⟨.fix, e5 x⟩, some ⟨.fix, [.int .i64 x.a, .int .i64 x.b]⟩, g2, some ⟨.fix, [.int .i64 x.c]⟩]) := by rw [eH]; simp [denH, denL, It.den, den0, e5]
    have s8 := src_item (I := [.seg A, .blk .fix [(.raw (.slice a1 l.length c1))], .seg B, .seg X1, .seg J2, .blk .fix [(sI x.a), (sI x.b), (sI x.c), (sI x.d), (sB x.e)], .blk .fix [(sI x.a), (sI x.b)], .seg [g2], .blk .fix [(sI x.c)]]) (k := 8) (o := 0) (n := 1) (c := 1) (w := 1) rfl (by simp)
    rw [e8] at s8
    obtain ⟨J3, p1, p2, _⟩ := q3.app (w' := 2) (eby := 8) (l' := .slice none 0 0) (rows' := []) (by decide) (.inl ⟨rfl, rfl⟩) (x := denV (ofs [.seg A, .blk .fix [(.raw (.slice a1 l.length c1))], .seg B, .seg X1, .seg J2, .blk .fix [(sI x.a), (sI x.b), (sI x.c), (sI x.d), (sB x.e)], .blk .fix [(sI x.a), (sI x.b)], .seg [g2], .blk .fix [(sI x.c)]]) (.sl 8 0 1 1)) (R := [some ⟨.fix, e5 x⟩, some ⟨.fix, [.int .i64 x.a, .int .i64 x.b]⟩, g2, some ⟨.fix, [.int .i64 x.c]⟩]) (row := ir x.c) s8 rfl (by decide) (by rw [l1]; omega) (by rw [l1]; omega)
    rw [l1] at p2
    obtain ⟨g1, eg1⟩ : ∃ g1 : Option Blk, g1 = some ⟨.grown 1, ((lostOf (l.take j)).map ir ++ [ir x.c]).flatten⟩ := ⟨_, rfl⟩
    rw [← eg1] at p2
    have tk2 : (nowOf (l.take (j + 1))).map e2 = (nowOf (l.take j)).map e2 ++ [e2 ⟨x.a, x.b⟩] := by rw [WB.take_one hx]; simp [nowOf]
    have tk1 : (lostOf (l.take (j + 1))).map ir = (lostOf (l.take j)).map ir ++ [ir x.c] := by rw [WB.take_one hx]; simp [lostOf]
    refine Wp.tree (cE_ok 0) (tree14u tv wa na la (some ⟨HH.length + (J2.length + 2), 0, none⟩) (some ⟨HH.length + (J3.length + 4), 0, none⟩) a1 l.length wc nc lc (j + 1) (j + 1) c1 j id h w i x b1 o1 A B X1 J J2 J3 [g2] [g1]) ⟨by kernel_rfl, by kernel_rfl⟩ ⟨fun _ => ⟨r1.ptr _ _, r1.all _, q1, ?_, p1, ?_, end_next (m - 1) (by omega) ⟨j + 1, J3 ++ ([some ⟨.fix, e5 x⟩, some ⟨.fix, [.int .i64 x.a, .int .i64 x.b]⟩] ++ (g2 :: [some ⟨.fix, [.int .i64 x.c]⟩, g1])), some ⟨HH.length + (J2.length + 2), 0, none⟩, some ⟨HH.length + (J3.length + 4), 0, none⟩, j + 1, j + 1, by omega, ?_, ?_, ?_, ?_⟩⟩, fun q => by simp at q; omega⟩
    · rw [e6]
      have := q2 (Plain.env tblK (gE 0))
      rw [this]
      simp [eH, denH, denL, It.den, den0, e5]
    · rw [e8]
      have := p2 (Plain.env tblK (gE 0))
      rw [this]
      simp [eH, denH, denL, It.den, den0, e5]
    · rw [wrap64 (x := (j : Int) + 1) (by omega) (by omega)]; show denF _ _ = denF _ _; kernel_rfl
    · simp [denH, denL, It.den, den0, e5]
    · rw [← eH, tk2, eg2]
      have := LsT.mk' (w := 2) (H := HH) (J := J3) (R := [some ⟨.fix, e5 x⟩, some ⟨.fix, [.int .i64 x.a, .int .i64 x.b]⟩]) (rows := (nowOf (l.take j)).map e2 ++ [e2 ⟨x.a, x.b⟩]) (fun r hr => by
        rw [← tk2] at hr; obtain ⟨z, _, rfl⟩ := List.mem_map.1 hr; rfl) (by simp) (j := J2.length + 2) (by simp; omega) [some ⟨.fix, [.int .i64 x.c]⟩, g1]
      rw [List.length_append, l2] at this
      exact this
    · rw [← eH, tk1]
      have := LsT.mk' (w := 1) (H := HH) (J := J3) (R := [some ⟨.fix, e5 x⟩, some ⟨.fix, [.int .i64 x.a, .int .i64 x.b]⟩, g2, some ⟨.fix, [.int .i64 x.c]⟩]) (rows := (lostOf (l.take j)).map ir ++ [ir x.c]) (fun r hr => by
        rw [← tk1] at hr; obtain ⟨z, _, rfl⟩ := List.mem_map.1 hr; rfl) (by simp) (j := J3.length + 4) (by simp) []
      rw [List.length_append, l1, ← eg1] at this
      simpa using this
  · have hil : j = l.length := by omega
    refine Wp.tree (cE_ok 0) (tree14u tv wa na la none none a1 l.length wc nc lc 0 0 c1 j id h w i ⟨0, 0, 0, 0, false⟩ 0 0 A B X1 J J J [] []) ⟨by kernel_rfl, by kernel_rfl⟩ ⟨fun q => by simp at q; omega, fun _ => end_exit ⟨J, na, la, nc, lc, rfl, ?_, rfl, ?_, ?_⟩⟩
    · rw [hil]; show denF _ _ = denF _ _; kernel_rfl
    · rw [hil, List.take_length] at h2; exact h2
    · rw [hil, List.take_length] at h1; exact h1
set_option maxHeartbeats 4000000 in
theorem loopX {A B J : Heap} {a1 wa ya va : Option Addr} {c1 wc yc vc j : Nat} {l : List L5} {ys : List R7} {x : L5} {tv : Value} {id h w i : Int} (hy : RowsW 7 (denH [.seg A, .blk .fix [(.raw (.slice a1 l.length c1))], .seg B, .seg J, .blk .fix [(sI x.a), (sI x.b), (sI x.c), (sI x.d), (sB x.e)]]) (.slice ya ys.length yc) (ys.map e7)) (hm : ys.length ≤ 1000) :
    Wp (Plain.env tblK (gE 0)) (inL [1, 2, 6, 8, 9, 10, 11, 14, 17, 21, 22, 23, 133, 134, 135]) (.block 6 (.loop body14_6)) (denF [.seg A, .blk .fix [(.raw (.slice a1 l.length c1))], .seg B, .seg J, .blk .fix [(sI x.a), (sI x.b), (sI x.c), (sI x.d), (sB x.e)]] (frS 234 [(1, (.raw tv)), (2, (sI id)), (6, (sB false)), (8, (.ptr 1 0)), (9, (sI h)), (10, (sI w)), (11, (sI i)), (14, (.raw (.slice wa l.length wc))), (17, (.raw (.slice ya ys.length yc))), (21, (sI j)), (22, (.ptr 4 0)), (23, (sB false)), (133, (.raw (.slice va l.length vc))), (134, (sI (l.length : Int))), (135, (sI j)), (140, (.raw (.slice ya ys.length yc))), (141, (sI (ys.length : Int))), (142, (sI 0))])) (denH [.seg A, .blk .fix [(.raw (.slice a1 l.length c1))], .seg B, .seg J, .blk .fix [(sI x.a), (sI x.b), (sI x.c), (sI x.d), (sB x.e)]]) fun e t hh => ∃ Y : Heap, e = .normal ∧ t = denF [.seg A, .blk .fix [(.raw (.slice a1 l.length c1))], .seg B, .seg J, .blk .fix [(sI x.a), (sI x.b), (sI x.c), (sI x.d), (sB x.e)], .seg Y] (frS 234 [(1, (.raw tv)), (2, (sI id)), (6, (sB false)), (8, (.ptr 1 0)), (9, (sI h)), (10, (sI w)), (11, (sI i)), (14, (.raw (.slice wa l.length wc))), (17, (.raw (.slice ya ys.length yc))), (21, (sI j)), (22, (.ptr 4 0)), (23, (sB (ys.any fun y => y.a == x.a))), (133, (.raw (.slice va l.length vc))), (134, (sI (l.length : Int))), (135, (sI j))]) ∧ hh = denH [.seg A, .blk .fix [(.raw (.slice a1 l.length c1))], .seg B, .seg J, .blk .fix [(sI x.a), (sI x.b), (sI x.c), (sI x.d), (sB x.e)], .seg Y] := by
  refine Wp.bl (fun m t hh => ∃ (q : Nat) (Y : Heap), q + m = ys.length ∧ t = denF [.seg A, .blk .fix [(.raw (.slice a1 l.length c1))], .seg B, .seg J, .blk .fix [(sI x.a), (sI x.b), (sI x.c), (sI x.d), (sB x.e)], .seg Y] (frS 234 [(1, (.raw tv)), (2, (sI id)), (6, (sB false)), (8, (.ptr 1 0)), (9, (sI h)), (10, (sI w)), (11, (sI i)), (14, (.raw (.slice wa l.length wc))), (17, (.raw (.slice ya ys.length yc))), (21, (sI j)), (22, (.ptr 4 0)), (23, (sB ((ys.take q).any fun y => y.a == x.a))), (133, (.raw (.slice va l.length vc))), (134, (sI (l.length : Int))), (135, (sI j)), (140, (.raw (.slice ya ys.length yc))), (141, (sI (ys.length : Int))), (142, (sI q))]) ∧ hh = denH [.seg A, .blk .fix [(.raw (.slice a1 l.length c1))], .seg B, .seg J, .blk .fix [(sI x.a), (sI x.b), (sI x.c), (sI x.d), (sB x.e)], .seg Y]) ?_ ys.length _ _
    ⟨0, [], by omega, by show denF _ _ = denF _ _; kernel_rfl, by simp [denH, denL, It.den, den0]⟩
  rintro m t hh ⟨q, Y, hq, ht, hhh⟩
  rw [ht, hhh]
  clear ht hhh
  obtain ⟨nm, enm⟩ : ∃ nm, nm = ((ys.take q).any fun y => y.a == x.a) := ⟨_, rfl⟩
  rw [← enm]
  by_cases hlt : q < ys.length
  · obtain ⟨y, hy1⟩ := getE hlt
    have hY : RowsW 7 (denH [.seg A, .blk .fix [(.raw (.slice a1 l.length c1))], .seg B, .seg J, .blk .fix [(sI x.a), (sI x.b), (sI x.c), (sI x.d), (sB x.e)], .seg Y]) (.slice ya ys.length yc) (ys.map e7) := by
      have := hy.app Y
      simpa [denH, denL, It.den, den0] using this
    obtain ⟨b1, o1, r1⟩ := hY.rowM hy1
    have tr := tree14x tv wa ya va a1 l.length wc ys.length yc vc c1 j q id h w i nm x y b1 o1 A B J Y
    refine Wp.tree (cE_ok 0) tr ⟨by kernel_rfl, by kernel_rfl⟩ ⟨fun _ => ⟨r1.ptr _ _, r1.all _, bif_tt _, end_next (m - 1) (by omega) ⟨q + 1, Y ++ [some ⟨.fix, e7 y⟩], by omega, ?_, ?_⟩⟩, fun q => by simp at q; omega⟩
    · have e1 : (bif nm then true else (y.a == x.a)) = ((ys.take (q + 1)).any fun y => y.a == x.a) := by
        rw [WB.take_one hy1, List.any_append, ← enm]
        cases nm <;> simp
      rw [e1, wrap64 (x := (q : Int) + 1) (by omega) (by omega)]; show denF _ _ = denF _ _; kernel_rfl
    · simp [denH, denL, It.den, den0, e7]
  · have hil : q = ys.length := by omega
    have tr := tree14x tv wa ya va a1 l.length wc ys.length yc vc c1 j q id h w i nm x ⟨0, 0, 0, 0, 0, 0, false⟩ 0 0 A B J Y
    refine Wp.tree (cE_ok 0) tr ⟨by kernel_rfl, by kernel_rfl⟩ ⟨fun q => by simp at q; omega, fun _ => end_exit ⟨Y, rfl, ?_, rfl⟩⟩
    rw [enm, hil, List.take_length]; show denF _ _ = denF _ _; kernel_rfl
theorem loopV {A B : Heap} {a1 wa ya va : Option Addr} {c1 wc yc vc : Nat} {l l' : List L5} {ys : List R7} {tv : Value} {id h w i : Int} (hp : RowsW 5 (A ++ some ⟨.fix, [.slice a1 l.length c1]⟩ :: B) (.slice a1 l.length c1) (l'.map e5)) (hw : RowsW 5 (A ++ some ⟨.fix, [.slice a1 l.length c1]⟩ :: B) (.slice wa l.length wc) (l.map e5)) (hv : RowsW 5 (A ++ some ⟨.fix, [.slice a1 l.length c1]⟩ :: B) (.slice va l.length vc) (l.map e5)) (hy : RowsW 7 (A ++ some ⟨.fix, [.slice a1 l.length c1]⟩ :: B) (.slice ya ys.length yc) (ys.map e7))
    (hm : l.length ≤ 1000) (hl : l'.length = l.length) (hn : ys.length ≤ 1000) (same : ∀ (j : Nat) (x : L5), l[j]? = some x → (∀ y ∈ ys, y.a ≠ x.a) → l'[j]? = some x) :
    Wp (Plain.env tblK (gE 0)) (inL [1, 2, 6, 8, 9, 10, 11, 17]) (.block 4 (.loop body14_4)) (denF [.seg A, .blk .fix [(.raw (.slice a1 l.length c1))], .seg B] (frS 234 [(1, (.raw tv)), (2, (sI id)), (6, (sB false)), (8, (.ptr 1 0)), (9, (sI h)), (10, (sI w)), (11, (sI i)), (14, (.raw (.slice wa l.length wc))), (17, (.raw (.slice ya ys.length yc))), (133, (.raw (.slice va l.length vc))), (134, (sI (l.length : Int))), (135, (sI 0))])) (denH [.seg A, .blk .fix [(.raw (.slice a1 l.length c1))], .seg B]) fun e t hh => ∃ X : Heap, e = .normal ∧ t = denF [.seg A, .blk .fix [(.raw (.slice a1 l.length c1))], .seg B, .seg X] (frS 234 [(1, (.raw tv)), (2, (sI id)), (6, (sB false)), (8, (.ptr 1 0)), (9, (sI h)), (10, (sI w)), (11, (sI i)), (17, (.raw (.slice ya ys.length yc)))]) ∧ hh = denH [.seg A, .blk .fix [(.raw (.slice a1 l.length c1))], .seg B, .seg X] := by
  refine Wp.bl (fun m t hh => ∃ (j : Nat) (J : Heap), j + m = l.length ∧ t = denF [.seg A, .blk .fix [(.raw (.slice a1 l.length c1))], .seg B, .seg J] (frS 234 [(1, (.raw tv)), (2, (sI id)), (6, (sB false)), (8, (.ptr 1 0)), (9, (sI h)), (10, (sI w)), (11, (sI i)), (14, (.raw (.slice wa l.length wc))), (17, (.raw (.slice ya ys.length yc))), (133, (.raw (.slice va l.length vc))), (134, (sI (l.length : Int))), (135, (sI j))]) ∧ hh = denH [.seg A, .blk .fix [(.raw (.slice a1 l.length c1))], .seg B, .seg J]) ?_ l.length _ _
    ⟨0, [], by omega, by show denF _ _ = denF _ _; kernel_rfl, by simp [denH, denL, It.den, den0]⟩
  rintro m t hh ⟨j, J, hj, rfl, rfl⟩
  obtain ⟨D, eD⟩ : ∃ D, D = A ++ some ⟨.fix, [.slice a1 l.length c1]⟩ :: B := ⟨_, rfl⟩
  by_cases hlt : j < l.length
  · obtain ⟨x, hx⟩ := getE hlt
    have e4 : denH [.seg A, .blk .fix [(.raw (.slice a1 l.length c1))], .seg B, .seg J] = D ++ J := by rw [eD]; simp [denH, denL, It.den, den0]
    have e5' : denH [.seg A, .blk .fix [(.raw (.slice a1 l.length c1))], .seg B, .seg J, .blk .fix [(sI x.a), (sI x.b), (sI x.c), (sI x.d), (sB x.e)]] = D ++ (J ++ [some ⟨.fix, e5 x⟩]) := by rw [eD]; simp [denH, denL, It.den, den0, e5]
    have e6 : ∀ Y, denH [.seg A, .blk .fix [(.raw (.slice a1 l.length c1))], .seg B, .seg J, .blk .fix [(sI x.a), (sI x.b), (sI x.c), (sI x.d), (sB x.e)], .seg Y] = D ++ (J ++ (some ⟨.fix, e5 x⟩ :: Y)) := fun Y => by rw [eD]; simp [denH, denL, It.den, den0, e5]
    rw [← eD] at hp hw hv hy
    have hv4 : RowsW 5 (denH [.seg A, .blk .fix [(.raw (.slice a1 l.length c1))], .seg B, .seg J]) (.slice va l.length vc) (l.map e5) := by rw [e4]; exact hv.app _
    obtain ⟨b1, o1, r1⟩ := hv4.rowM hx
    have hy5 : RowsW 7 (denH [.seg A, .blk .fix [(.raw (.slice a1 l.length c1))], .seg B, .seg J, .blk .fix [(sI x.a), (sI x.b), (sI x.c), (sI x.d), (sB x.e)]]) (.slice ya ys.length yc) (ys.map e7) := by rw [e5']; exact hy.app _
    obtain ⟨e, t1, h1, ⟨Y, rfl, rfl, rfl⟩, wx⟩ := (loopX (l := l) (wa := wa) (va := va) (wc := wc) (vc := vc) (j := j) (tv := tv) (id := id) (h := h) (w := w) (i := i) hy5 hn).exact
    have hw6 : RowsW 5 (denH [.seg A, .blk .fix [(.raw (.slice a1 l.length c1))], .seg B, .seg J, .blk .fix [(sI x.a), (sI x.b), (sI x.c), (sI x.d), (sB x.e)], .seg Y]) (.slice wa l.length wc) (l.map e5) := by rw [e6]; exact hw.app _
    obtain ⟨b2, o2, r2⟩ := hw6.rowM hx
    cases hnm : ys.any fun y => y.a == x.a with
    | true =>
      rw [hnm] at wx
      refine Wp.tree (cE_ok 0) (tree14vtrue tv wa ya va none a1 l.length wc ys.length yc vc 0 c1 j id h w i x b1 o1 b2 o2 0 0 A B J Y []) ⟨by kernel_rfl, by kernel_rfl⟩ ⟨fun _ => ⟨r1.ptr _ _, r1.all _, wx, rfl, rfl, rfl, r2.ptr _ _, r2.all _, eqc_h _ _ _, rfl, rfl, rfl, rfl, rfl, rfl, end_next (m - 1) (by omega) ⟨j + 1, J ++ (some ⟨.fix, e5 x⟩ :: Y), by omega, ?_, ?_⟩⟩, fun q => by simp at q; omega⟩
      · rw [wrap64 (x := (j : Int) + 1) (by omega) (by omega)]; show denF _ _ = denF _ _; kernel_rfl
      · simp [denH, denL, It.den, den0, e5]
    | false =>
      rw [hnm] at wx
      have hx' : l'[j]? = some x := same j x hx fun y hy1 q => by
        have := List.any_eq_false.1 hnm y hy1
        simp [q] at this
      have hp6 : RowsW 5 (denH [.seg A] ++ some ⟨.fix, [.slice a1 l.length c1]⟩ :: (B ++ (J ++ (some ⟨.fix, e5 x⟩ :: Y)))) (.slice a1 l.length c1) (l'.map e5) := by
        have := hp.app (J ++ (some ⟨.fix, e5 x⟩ :: Y))
        rw [eD] at this
        simpa [denH, denL, It.den] using this
      obtain ⟨ea, ec, Z, q1, q2⟩ := c58 (I1 := [.seg A]) (I2 := [.seg B, .seg J, .blk .fix [(sI x.a), (sI x.b), (sI x.c), (sI x.d), (sB x.e)], .seg Y]) rfl (fun f => by simp [denL, It.den, den0, e5]) hp6 (by omega)
      rw [hl] at q1 q2
      have hz : RowsW 5 (denH [.seg A, .blk .fix [(.raw (.slice a1 l.length c1))], .seg B, .seg J, .blk .fix [(sI x.a), (sI x.b), (sI x.c), (sI x.d), (sB x.e)], .seg Y, .seg Z]) (.slice ea l.length ec) (l'.map e5) := by
        have := q1.rows (by decide) []
        simpa [denH, denL, It.den, den0, e5] using this
      obtain ⟨b3, o3, r3⟩ := hz.rowM hx'
      refine Wp.tree (cE_ok 0) (tree14vfalse tv wa ya va ea a1 l.length wc ys.length yc vc ec c1 j id h w i x b1 o1 b2 o2 b3 o3 A B J Y Z) ⟨by kernel_rfl, by kernel_rfl⟩ ⟨fun _ => ⟨r1.ptr _ _, r1.all _, wx, rfl, rfl, rfl, r2.ptr _ _, r2.all _, eqc_h _ _ _, rfl, rfl, rfl, rfl, rfl, q2, rfl, r3.ptr _ _, r3.all _, rfl, eqc_h _ _ _, rfl, rfl, by simp, end_next (m - 1) (by omega) ⟨j + 1, J ++ (some ⟨.fix, e5 x⟩ :: (Y ++ Z)), by omega, ?_, ?_⟩⟩, fun q => by simp at q; omega⟩
      · rw [wrap64 (x := (j : Int) + 1) (by omega) (by omega)]; show denF _ _ = denF _ _; kernel_rfl
      · simp [denH, denL, It.den, den0, e5]
  · have hil : j = l.length := by omega
    refine Wp.tree (cE_ok 0) (tree14vtrue tv wa ya va none a1 l.length wc ys.length yc vc 0 c1 j id h w i ⟨0, 0, 0, 0, false⟩ 0 0 0 0 0 0 A B J [] []) ⟨by kernel_rfl, by kernel_rfl⟩ ⟨fun q => by simp at q; omega, fun _ => end_exit ⟨J, rfl, ?_, rfl⟩⟩
    show denF _ _ = denF _ _; kernel_rfl
/-- Is a loan the same? -/
def eqL (y x : L5) : Bool := y.a == x.a && (y.b == x.b && (y.c == x.c && (y.d == x.d && (y.e == x.e && true))))
theorem eqL_iff {y x : L5} : eqL y x = true ↔ y = x := by
  cases y; cases x
  simp [eqL]
theorem loopZ {A B X : Heap} {a1 ea : Option Addr} {c1 ec : Nat} {n : Nat} {l : List L5} {x : L5} {id : Int} {ok : Bool} (he : RowsW 5 (denH [.seg A, .blk .fix [(.raw (.slice a1 l.length c1))], .seg B, .blk .fix [(sI x.a), (sI x.b), (sI x.c), (sI x.d), (sB x.e)], .seg X]) (.slice ea l.length ec) (l.map e5)) (hm : l.length ≤ 1000) :
    Wp (Plain.env tblK (gE 0)) (inL [6, 28, 29, 30]) (.block 8 (.loop body14_8)) (denF [.seg A, .blk .fix [(.raw (.slice a1 l.length c1))], .seg B, .blk .fix [(sI x.a), (sI x.b), (sI x.c), (sI x.d), (sB x.e)], .seg X] (frS 234 [(2, (sI id)), (6, (sB false)), (28, (.ptr 3 0)), (29, (sB ok)), (30, (sB false)), (200, (.raw (.slice ea l.length ec))), (201, (sI (l.length : Int))), (202, (sI 0))])) (denH [.seg A, .blk .fix [(.raw (.slice a1 l.length c1))], .seg B, .blk .fix [(sI x.a), (sI x.b), (sI x.c), (sI x.d), (sB x.e)], .seg X]) fun e t hh => ∃ Y : Heap, e = .normal ∧ t = denF [.seg A, .blk .fix [(.raw (.slice a1 l.length c1))], .seg B, .blk .fix [(sI x.a), (sI x.b), (sI x.c), (sI x.d), (sB x.e)], .seg X, .seg Y] (frS 234 [(6, (sB false)), (28, (.ptr 3 0)), (29, (sB ok)), (30, (sB (l.any fun y => bif y.a == id then eqL y x else false)))]) ∧ hh = denH [.seg A, .blk .fix [(.raw (.slice a1 l.length c1))], .seg B, .blk .fix [(sI x.a), (sI x.b), (sI x.c), (sI x.d), (sB x.e)], .seg X, .seg Y] := by
  refine Wp.bl (fun m t hh => ∃ (j : Nat) (J : Heap), j + m = l.length ∧ t = denF [.seg A, .blk .fix [(.raw (.slice a1 l.length c1))], .seg B, .blk .fix [(sI x.a), (sI x.b), (sI x.c), (sI x.d), (sB x.e)], .seg X, .seg J] (frS 234 [(2, (sI id)), (6, (sB false)), (28, (.ptr 3 0)), (29, (sB ok)), (30, (sB ((l.take j).any fun y => bif y.a == id then eqL y x else false))), (200, (.raw (.slice ea l.length ec))), (201, (sI (l.length : Int))), (202, (sI j))]) ∧ hh = denH [.seg A, .blk .fix [(.raw (.slice a1 l.length c1))], .seg B, .blk .fix [(sI x.a), (sI x.b), (sI x.c), (sI x.d), (sB x.e)], .seg X, .seg J]) ?_ l.length _ _
    ⟨0, [], by omega, by show denF _ _ = denF _ _; kernel_rfl, by simp [denH, denL, It.den, den0]⟩
  rintro m t hh ⟨j, J, hj, rfl, rfl⟩
  by_cases hlt : j < l.length
  · obtain ⟨y, hy⟩ := getE hlt
    have he6 : RowsW 5 (denH [.seg A, .blk .fix [(.raw (.slice a1 l.length c1))], .seg B, .blk .fix [(sI x.a), (sI x.b), (sI x.c), (sI x.d), (sB x.e)], .seg X, .seg J]) (.slice ea l.length ec) (l.map e5) := by
      have := he.app J
      simpa [denH, denL, It.den, den0] using this
    obtain ⟨b1, o1, r1⟩ := he6.rowM hy
    refine Wp.tree (cE_ok 0) (tree14z id ea a1 l.length ec c1 j ok ((l.take j).any fun y => bif y.a == id then eqL y x else false) x y b1 o1 A B X J) ⟨by kernel_rfl, by kernel_rfl⟩ ⟨fun _ => ⟨r1.ptr _ _, r1.all _, by simp, end_next (m - 1) (by omega) ⟨j + 1, J ++ [some ⟨.fix, e5 y⟩], by omega, ?_, ?_⟩⟩, fun q => by simp at q; omega⟩
    · have e1 : (bif ((l.take j).any fun y => bif y.a == id then eqL y x else false) then true else (bif y.a == id then ((y.a == x.a) && ((y.b == x.b) && ((y.c == x.c) && ((y.d == x.d) && ((y.e == x.e) && true))))) else false)) = ((l.take (j + 1)).any fun y => bif y.a == id then eqL y x else false) := by
        rw [WB.take_one hy, List.any_append]
        cases (l.take j).any fun y => bif y.a == id then eqL y x else false
        · simp only [cond_false, Bool.false_or, List.any_cons, List.any_nil, Bool.or_false]; rfl
        · rfl
      rw [e1, wrap64 (x := (j : Int) + 1) (by omega) (by omega)]; show denF _ _ = denF _ _; kernel_rfl
    · simp [denH, denL, It.den, den0, e5]
  · have hil : j = l.length := by omega
    refine Wp.tree (cE_ok 0) (tree14z id ea a1 l.length ec c1 j ok ((l.take j).any fun y => bif y.a == id then eqL y x else false) x ⟨0, 0, 0, 0, false⟩ 0 0 A B X J) ⟨by kernel_rfl, by kernel_rfl⟩ ⟨fun q => by simp at q; omega, fun _ => end_exit ⟨J, rfl, ?_, rfl⟩⟩
    rw [hil, List.take_length]; show denF _ _ = denF _ _; kernel_rfl
end KP
end PO
end Go.Proofs.Ytgdojnamjkhknaa
