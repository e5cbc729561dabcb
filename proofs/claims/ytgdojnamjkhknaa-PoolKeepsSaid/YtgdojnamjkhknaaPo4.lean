/-
  The law PoolOver.
-/
import Derived.Test.YtgdojnamjkhknaaPo3
import Derived.Test.YtgdojnamjkhknaaWi
import Derived.Test.YtgdojnamjkhknaaClPoolRuns
namespace Go.Proofs.Ytgdojnamjkhknaa
open Go.Am
set_option linter.all false
set_option maxRecDepth 100000
namespace PO
namespace O
def sRuns : List Value → Option (Bool × Value)
  | [] => some (true, .bool true)
  | _ => none
theorem runs_ok : ∀ args v, sRuns args = some (true, v) → args.all (belowV 0) = true ∧ belowV 0 v = true ∧ Sim Try.prog 11 args [] fun v1 _ => v1 = v := fun args v e => by
  unfold sRuns at e
  split at e
  · cases e; exact ⟨rfl, rfl, ClPoolRuns.sim.mono fun _ _ q => q.1⟩
  · cases e
abbrev tblO : Plain := [(11, sRuns), (30, sWithin)]
theorem tblO_ok : PlainOk Try.prog tblO := .cons runs_ok (.cons (within_ok mixed st30) .nil)
noncomputable def g : Env := fun f => match f with
  | 45 => runE (Plain.env [] (WB.gE 0)) N.il45
  | 46 => runE (Plain.env tblP (P.gE 0)) P.il46
  | 47 => B.g47
  | 48 => B.g48
  | 57 => smry F.pre F.res
  | _ => fun _ _ => none
theorem g_ok : EnvOk Try.prog g := fun f => by
  unfold g
  split
  · exact N.sum45
  · exact P.sum46
  · exact B.summ47
  · exact B.summ48
  · exact F.summ
  · exact fun args h v h' e => by cases e
theorem g_q : QuietEnv qt g := fun f args h v h' hf e => by cases hf
noncomputable abbrev gE (k : Nat) : Env := inE tblO [] k g
noncomputable abbrev cE (k : Nat) : CallS := callS tblO [] g 100 k
theorem gE_q (k : Nat) : QuietEnv qt (Plain.env tblO (gE k)) := Plain.quiet (inE_quiet g_q (fun f F h => by cases h) k)
theorem gE_ok (k : Nat) : EnvOk Try.prog (Plain.env tblO (gE k)) := Plain.ok tblO_ok (inE_ok (qt := qt) mixed tblO_ok .nil (fun f F h => by cases h) g_ok g_q k)
theorem cE_ok (k : Nat) : CallOk (Plain.env tblO (gE k)) (cE k) := callS_ok k
theorem call {f : Nat} {args : List Value} {h : Heap} {r : Value × Heap} (ht : tblO.find f args = none) (e : g f args h = some r) : opA (Plain.env tblO (gE 0)) (.call f (args.map .const)) [] h = some r := opA_call ht e
theorem wi (x lo hi : Int) (h : Heap) (hp : preWithin lo hi = true) : opA (Plain.env tblO (gE 0)) (.call 30 [.const (.int .i64 x), .const (.int .i64 lo), .const (.int .i64 hi)]) [] h = some (.int .i64 (wn x lo hi), h) := by
  simp [opA, ev, Plain.env, Plain.find, sWithin, hp]
theorem sub_ok (Γ : Env) (x y z : Int) (h : z = IntKind.wrap .i64 (x - y)) : opA Γ (.bin .sub (.const (.int .i64 x)) (.const (.int .i64 y))) [] [] = some (.int .i64 z, []) := by subst h; rfl
theorem add_ok (Γ : Env) (x y z : Int) (h : z = IntKind.wrap .i64 (x + y)) : opA Γ (.bin .add (.const (.int .i64 x)) (.const (.int .i64 y))) [] [] = some (.int .i64 z, []) := by subst h; rfl
theorem ne_self (Γ : Env) (x : Int) : opA Γ (.bin .neq (.const (.int .i64 x)) (.const (.int .i64 x))) [] [] = some (.bool false, []) := by simp [opA, pureA, ev, binA, intBin]
theorem eq_self' (Γ : Env) (x : Int) : opA Γ (.bin .eql (.const (.int .i64 x)) (.const (.int .i64 x))) [] [] = some (.bool true, []) := by simp [opA, pureA, ev, binA, intBin]
/-! ### Calls at a pool's cell behind one part of the heap -/
theorem denP {A B : Heap} {I2 : SH} (hI : ∀ f, denL f I2 = B) (s : Value) : denH (.seg A :: pB s :: I2) = A ++ some ⟨.fix, [s]⟩ :: B := by
  simp [denH, denL, It.den, den0, hI]
theorem ptrP {A : Heap} {I2 : SH} (s : Value) : denV (ofs (.seg A :: pB s :: I2)) (.ptr 1 0) = .pointer (some ⟨A.length, 0, none⟩) := by
  simp [denV, denA, den0, ofs, It.len]
theorem denL_snoc {B R : Heap} {I2 I3 : SH} (hI : ∀ f, denL f I2 = B) (hJ : ∀ f, denL f I3 = R) : ∀ f, denL f (I2 ++ I3) = B ++ R := fun f => by rw [denL_app, hI, hJ]
theorem slP {A B : Heap} {I2 : SH} (hI : ∀ f, denL f I2 = B) (s : Value) (y : R7) : denV (ofs (.seg A :: pB s :: (I2 ++ [P.lB y]))) (.sl (I2.length + 2) 0 1 1) = .slice (some ⟨A.length + (1 + B.length), 0, none⟩) 1 1 := by
  have hl : ((denH (.seg A :: pB s :: I2)).length) = A.length + (1 + B.length) := by rw [denP hI]; simp; omega
  rw [← hl, denH_len]
  simp only [denV, denA, den0]
  have e : (.seg A :: pB s :: (I2 ++ [P.lB y]) : SH) = (.seg A :: pB s :: I2) ++ [P.lB y] := rfl
  rw [e, off_app _ _ _ (by simp)]
  rfl
theorem app {A B : Heap} {I2 : SH} (hI : ∀ f, denL f I2 = B) {s : Value} {l : List L5} {y : R7} (hs : RowsW 5 (A ++ some ⟨.fix, [s]⟩ :: B) s (l.map e5)) (hm : l.length ≤ 1000000) :
    ∃ (X : Heap), match applyF l [y] with
      | some q => ∃ a c, q.1.length = l.length ∧ RowsW 5 (A ++ some ⟨.fix, [.slice a l.length c]⟩ :: (B ++ (some ⟨.fix, e7 y⟩ :: X))) (.slice a l.length c) (q.1.map e5) ∧ opA (Plain.env tblO (gE 0)) (.call 46 [.const (denV (ofs (.seg A :: pB s :: (I2 ++ [P.lB y]))) (.ptr 1 0)), .const (denV (ofs (.seg A :: pB s :: (I2 ++ [P.lB y]))) (.sl (I2.length + 2) 0 1 1))]) [] (denH (.seg A :: pB s :: (I2 ++ [P.lB y]))) = some (P.tupA (some q), denH (.seg A :: pB (.slice a l.length c) :: (I2 ++ [P.lB y, .seg X])))
      | none => opA (Plain.env tblO (gE 0)) (.call 46 [.const (denV (ofs (.seg A :: pB s :: (I2 ++ [P.lB y]))) (.ptr 1 0)), .const (denV (ofs (.seg A :: pB s :: (I2 ++ [P.lB y]))) (.sl (I2.length + 2) 0 1 1))]) [] (denH (.seg A :: pB s :: (I2 ++ [P.lB y]))) = some (P.tupA none, denH (.seg A :: pB s :: (I2 ++ [P.lB y, .seg X]))) := by
  have hI1 : ∀ f, denL f (I2 ++ [P.lB y]) = B ++ [some ⟨.fix, e7 y⟩] := denL_snoc hI fun f => rfl
  have hrow : RowsW 7 (A ++ some ⟨.fix, [s]⟩ :: (B ++ [some ⟨.fix, e7 y⟩])) (.slice (some ⟨A.length + (1 + B.length), 0, none⟩) 1 1) ([y].map e7) := by
    have := LsL.rows (w := 7) (H := A ++ some ⟨.fix, [s]⟩ :: B) (J := [some ⟨.fix, e7 y⟩]) (l := .slice (some ⟨(A ++ some ⟨.fix, [s]⟩ :: B).length + 0, 0, none⟩) 1 1) (rows := [e7 y]) (by decide) (.inr ⟨0, rfl, by simp, by simp [e7], by simp⟩) []
    have hl : (A ++ some ⟨.fix, [s]⟩ :: B).length + 0 = A.length + (1 + B.length) := by simp; omega
    rw [hl] at this
    simpa using this
  have hs' : RowsW 5 (A ++ some ⟨.fix, [s]⟩ :: (B ++ [some ⟨.fix, e7 y⟩])) s (l.map e5) := by
    have := hs.app [some ⟨.fix, e7 y⟩]
    simpa using this
  obtain ⟨X, hX⟩ := P.use46 hs' hrow hm (by simp)
  refine ⟨X, ?_⟩
  have hI2 : ∀ f, denL f (I2 ++ [P.lB y, .seg X]) = B ++ (some ⟨.fix, e7 y⟩ :: X) := denL_snoc hI fun f => by simp [denL, It.den, den0, e7]
  cases hap : applyF l [y] with
  | none =>
    rw [hap] at hX
    rw [slP hI, ptrP, denP hI1, denP hI2]
    have := call (f := 46) (args := [_, _]) rfl hX
    simpa using this
  | some q =>
    rw [hap] at hX
    obtain ⟨a, c, h1, h2, h3⟩ := hX
    refine ⟨a, c, h1, ?_, ?_⟩
    · have := h2.rows (by decide) []
      simpa using this
    · rw [slP hI, ptrP, denP hI1, denP hI2]
      have := call (f := 46) (args := [_, _]) rfl h3
      simpa using this
theorem sum48 {A B : Heap} {I2 : SH} (hI : ∀ f, denL f I2 = B) {s : Value} {l : List L5} (hs : RowsW 5 (A ++ some ⟨.fix, [s]⟩ :: B) s (l.map e5)) (hm : l.length ≤ 1000000) {n : Int} (hn : sumF L5.c 0 l = n) :
    opA (Plain.env tblO (gE 0)) (.call 48 [.const (denV (ofs (.seg A :: pB s :: I2)) (.ptr 1 0))]) [] (denH (.seg A :: pB s :: I2)) = some (.int .i64 n, denH (.seg A :: pB s :: I2)) := by
  rw [ptrP, denP hI, ← hn]
  exact call (f := 48) (args := [_]) rfl (preP_call (F := fun l h => (.int .i64 (sumF L5.c 0 l), h)) rd_mid1 hs (by omega))
theorem sum47 {A B : Heap} {I2 : SH} (hI : ∀ f, denL f I2 = B) {s : Value} {l : List L5} (hs : RowsW 5 (A ++ some ⟨.fix, [s]⟩ :: B) s (l.map e5)) (hm : l.length ≤ 1000000) {n : Int} (hn : sumF L5.b 0 l = n) :
    opA (Plain.env tblO (gE 0)) (.call 47 [.const (denV (ofs (.seg A :: pB s :: I2)) (.ptr 1 0))]) [] (denH (.seg A :: pB s :: I2)) = some (.int .i64 n, denH (.seg A :: pB s :: I2)) := by
  rw [ptrP, denP hI, ← hn]
  exact call (f := 47) (args := [_]) rfl (preP_call (F := fun l h => (.int .i64 (sumF L5.b 0 l), h)) rd_mid1 hs (by omega))
theorem find57 {A B : Heap} {I2 : SH} (hI : ∀ f, denL f I2 = B) {s : Value} {l : List L5} (hs : RowsW 5 (A ++ some ⟨.fix, [s]⟩ :: B) s (l.map e5)) (hm : l.length ≤ 1000000) {id : Int} {r : L5 × Bool} (hr : findF id l = r) :
    opA (Plain.env tblO (gE 0)) (.call 57 [.const (denV (ofs (.seg A :: pB s :: I2)) (.ptr 1 0)), .const (.int .i64 id)]) [] (denH (.seg A :: pB s :: I2)) = some (F.tupF r, denH (.seg A :: pB s :: I2)) := by
  rw [ptrP, denP hI, ← hr]
  exact call (f := 57) (args := [_, _]) rfl (F.call id rd_mid1 hs (by omega))
/-! ### The plain law -/
section
variable {b x u k w : Int}
def p1 (b : Int) : List L5 := [⟨3, b, 0, 0, false⟩, ⟨7, 50, 0, 0, false⟩]
def p2 (u : Int) : List L5 := [⟨3, 0, u, 0, true⟩, ⟨7, 50, 0, 0, false⟩]
theorem wr_id {x : Int} (h1 : -9223372036854775808 ≤ x) (h2 : x < 9223372036854775808) : wr x = x := wrap64 h1 h2
theorem tape1 (y : R7) (ha : 0 < y.a) : TP.tapeB [y] = TP.lineB y := by
  unfold TP.tapeB
  rw [if_neg (by simp)]
  simp only [TP.rtF]
  rw [if_neg (by omega)]
  cases TP.lineB y <;> rfl
theorem one_7 (b : Int) : applyF (p1 b) [⟨7, 0, 0, 0, 1, 0, false⟩] = none := by
  unfold applyF
  rw [tape1 _ (by decide), show TP.lineB ⟨7, 0, 0, 0, 1, 0, false⟩ = true from by decide, if_pos rfl]
  have e1 : atI 7 (p1 b) = some 1 := by simp [atI, p1]
  simp only [runF, stepF, e1]
  have e2 : (p1 b)[1]? = some ⟨7, 50, 0, 0, false⟩ := rfl
  have e3 : mayF ⟨7, 50, 0, 0, false⟩ ⟨7, 0, 0, 0, 1, 0, false⟩ = false := by decide
  simp only [e2, e3]; rfl
theorem one_3 (hb : b ≤ 1073741824) (hx : 0 ≤ x) (hxb : x ≤ b) (hu : u = b - x) : applyF (p1 b) [⟨3, x, 0, 0, 0, 0, true⟩] = some (p2 u, ⟨x, 0, u, 0⟩) := by
  unfold applyF
  rw [tape1 _ (by show (0 : Int) < 3; decide), TP.lineB_iff.2 ⟨by simp; omega, by simp, by simp, by simp, by simp, by simp⟩, if_pos rfl]
  have e1 : atI 3 (p1 b) = some 0 := by simp [atI, p1]
  have e2 : (p1 b)[0]? = some ⟨3, b, 0, 0, false⟩ := rfl
  have w1 : wr (b - x) = u := by rw [wr_id (by omega) (by omega)]; omega
  have w2 : wr (u - 0) = u := by rw [wr_id (by omega) (by omega)]; omega
  have w3 : wr (0 + u) = u := by rw [wr_id (by omega) (by omega)]; omega
  have w4 : wr (x + 0) = x := by rw [wr_id (by omega) (by omega)]; omega
  have w5 : wr (0 + x) = x := by rw [wr_id (by omega) (by omega)]; omega
  have w7 : wr (0 + 0) = 0 := by decide
  have e3 : mayF ⟨3, b, 0, 0, false⟩ ⟨3, x, 0, 0, 0, 0, true⟩ = true := by
    simp only [mayF, w1, w2, w3, Bool.false_eq_true, if_false]
    rw [if_neg (by omega)]
    simp
  have e4 : doneF ⟨3, b, 0, 0, false⟩ ⟨3, x, 0, 0, 0, 0, true⟩ = (⟨3, 0, u, 0, true⟩, ⟨x, 0, u, 0⟩) := by
    simp only [doneF, if_true, w4, w1, w3, w2]
  simp only [runF, stepF, e1, e2, e3, e4, if_true, addA, a0, w5, w3, w7]
  rfl
theorem one_k (hu : u ≤ 1073741824) (hk : 0 ≤ k) (hku : k ≤ u) (hw : w = u - k) : applyF (p2 u) [⟨3, 0, 0, 0, k, 0, false⟩] = some (p2 w, ⟨0, 0, 0, k⟩) := by
  unfold applyF
  rw [tape1 _ (by show (0 : Int) < 3; decide), TP.lineB_iff.2 ⟨by simp, by simp, by simp, by simp; omega, by simp, by simp⟩, if_pos rfl]
  have e1 : atI 3 (p2 u) = some 0 := by simp [atI, p2]
  have e2 : (p2 u)[0]? = some ⟨3, 0, u, 0, true⟩ := rfl
  have w1 : wr (u - k) = w := by rw [wr_id (by omega) (by omega)]; omega
  have w3 : wr (0 + k) = k := by rw [wr_id (by omega) (by omega)]; omega
  have w6 : wr 0 = 0 := by decide
  have w7 : wr (0 + 0) = 0 := by decide
  have w8 : wr (0 - 0) = 0 := by decide
  have e3 : mayF ⟨3, 0, u, 0, true⟩ ⟨3, 0, 0, 0, k, 0, false⟩ = true := by
    simp [mayF, hku]
  have e4 : doneF ⟨3, 0, u, 0, true⟩ ⟨3, 0, 0, 0, k, 0, false⟩ = (⟨3, 0, w, 0, true⟩, ⟨0, 0, 0, k⟩) := by
    simp only [doneF, Bool.false_eq_true, if_false, w7, w8, w1, Bool.true_or, if_true]
  simp only [runF, stepF, e1, e2, e3, e4, if_true, addA, a0, w7, w3]
  rfl
theorem one_no (y : R7) (ha : y.a = 3) (hno : y.b ≠ 0 ∨ y.d ≠ 0 ∨ y.f ≠ 0 ∨ y.g = true ∨ w < y.e) : applyF (p2 w) [y] = none := by
  unfold applyF
  split
  · have e1 : atI y.a (p2 w) = some 0 := by rw [ha]; simp [atI, p2]
    have e2 : (p2 w)[0]? = some ⟨3, 0, w, 0, true⟩ := rfl
    have e3 : mayF ⟨3, 0, w, 0, true⟩ y = false := by
      simp only [mayF, if_true]
      rcases hno with h | h | h | h | h
      · simp [h]
      · simp [h]
      · simp [h]
      · simp [h]
      · have : ¬ y.e ≤ w := by omega
        simp [this]
    simp only [runF, stepF, e1, e2, e3]
    rfl
  · rfl
theorem lost_2 (h0 : 0 ≤ u) (hu : u ≤ 1073741824) : sumF L5.c 0 (p2 u) = u := by
  have w3 : wr (0 + u) = u := by rw [wr_id (by omega) (by omega)]; omega
  have w4 : wr (u + 0) = u := by rw [wr_id (by omega) (by omega)]; omega
  simp only [sumF, p2, w3, w4]
theorem bal_2 : sumF L5.b 0 (p2 u) = 50 := by
  have w7 : wr (0 + 0) = 0 := by decide
  have w8 : wr (0 + 50) = 50 := by decide
  simp only [sumF, p2, w7, w8]
theorem find_2 : findF 3 (p2 w) = (⟨3, 0, w, 0, true⟩, true) := by
  have e1 : atI 3 (p2 w) = some 0 := by simp [atI, p2]
  simp only [findF, e1]; rfl
end
/-! ### The walk -/
/-- cascade/cascadelaw9.PoolOver -/
def il13 : FnIL := ⟨180, [.tmp 10],
 .seq (.reg [
    ⟨(some 10), none, .mov (.const (.bool false))⟩])
 (.seq (.reg [
    ⟨(some 27), none, .mov (.tmp 0)⟩,
    ⟨(some 28), none, .call 30 [(.tmp 27), (.const (.int .i64 1)), (.const (.int .i64 1073741824))]⟩,
    ⟨(some 11), none, .mov (.tmp 28)⟩])
 (.seq (.reg [
    ⟨(some 29), none, .mov (.tmp 11)⟩,
    ⟨(some 30), none, .build [(.int .i64 0), (.int .i64 0)] [(0, 1, (.const (.int .i64 3))), (1, 1, (.tmp 29))]⟩,
    ⟨(some 31), none, .build [(.int .i64 0), (.int .i64 0)] [(0, 1, (.const (.int .i64 7))), (1, 1, (.const (.int .i64 50)))]⟩,
    ⟨(some 32), none, .mkrow [(.int .i64 0), (.int .i64 0), (.int .i64 0), (.int .i64 0)] 2 [(0, 2, (.tmp 30)), (2, 2, (.tmp 31))]⟩,
    ⟨(some 33), none, .call 45 [(.tmp 32)]⟩,
    ⟨(some 12), none, .mov (.tmp 33)⟩])
 (.seq (.seq (.reg [
     ⟨(some 34), none, .mov (.tmp 12)⟩,
     ⟨(some 35), none, .eqv false .ptr (.tmp 34) (.const (.pointer none))⟩])
  (.ite (.tmp 35)
    (.seq (.reg [
       ⟨(some 10), none, .mov (.const (.bool false))⟩])
    (.ret))
    (.skip)))
 (.seq (.reg [
    ⟨(some 36), none, .mov (.tmp 1)⟩,
    ⟨(some 37), none, .mov (.tmp 11)⟩,
    ⟨(some 38), none, .call 30 [(.tmp 36), (.const (.int .i64 0)), (.tmp 37)]⟩,
    ⟨(some 13), none, .mov (.tmp 38)⟩])
 (.seq (.seq (.reg [
     ⟨(some 40), none, .mov (.tmp 12)⟩,
     ⟨(some 41), none, .build [(.int .i64 0), (.int .i64 0), (.int .i64 0), (.int .i64 0), (.int .i64 0), (.int .i64 0), (.bool false)] [(0, 1, (.const (.int .i64 7))), (4, 1, (.const (.int .i64 1)))]⟩,
     ⟨(some 42), none, .mkrow [(.int .i64 0), (.int .i64 0), (.int .i64 0), (.int .i64 0), (.int .i64 0), (.int .i64 0), (.bool false)] 1 [(0, 7, (.tmp 41))]⟩,
     ⟨(some 43), none, .call 46 [(.tmp 40), (.tmp 42)]⟩,
     ⟨(some 39), none, .mov (.tmp 43)⟩,
     ⟨(some 44), none, .ext 0 (.tmp 39)⟩,
     ⟨(some 45), none, .ext 1 (.tmp 39)⟩,
     ⟨(some 14), none, .alloc [(.int .i64 0), (.int .i64 0), (.int .i64 0), (.int .i64 0)]⟩,
     ⟨none, none, .store (.tmp 14) (.tmp 44) 4⟩,
     ⟨(some 15), none, .mov (.tmp 45)⟩])
  (.seq (.reg [
     ⟨(some 46), none, .mov (.tmp 15)⟩,
     ⟨(some 47), none, .bin .neq (.tmp 46) (.const (.int .i64 3))⟩])
  (.ite (.tmp 47)
    (.seq (.reg [
       ⟨(some 10), none, .mov (.const (.bool false))⟩])
    (.ret))
    (.skip))))
 (.seq (.reg [
    ⟨(some 49), none, .mov (.tmp 12)⟩,
    ⟨(some 50), none, .mov (.tmp 13)⟩,
    ⟨(some 51), none, .build [(.int .i64 0), (.int .i64 0), (.int .i64 0), (.int .i64 0), (.int .i64 0), (.int .i64 0), (.bool false)] [(0, 1, (.const (.int .i64 3))), (1, 1, (.tmp 50)), (6, 1, (.const (.bool true)))]⟩,
    ⟨(some 52), none, .mkrow [(.int .i64 0), (.int .i64 0), (.int .i64 0), (.int .i64 0), (.int .i64 0), (.int .i64 0), (.bool false)] 1 [(0, 7, (.tmp 51))]⟩,
    ⟨(some 53), none, .call 46 [(.tmp 49), (.tmp 52)]⟩,
    ⟨(some 48), none, .mov (.tmp 53)⟩,
    ⟨(some 54), none, .ext 0 (.tmp 48)⟩,
    ⟨(some 55), none, .ext 1 (.tmp 48)⟩,
    ⟨(some 16), none, .alloc [(.int .i64 0), (.int .i64 0), (.int .i64 0), (.int .i64 0)]⟩,
    ⟨none, none, .store (.tmp 16) (.tmp 54) 4⟩,
    ⟨(some 17), none, .mov (.tmp 55)⟩])
 (.seq (.seq (.reg [
     ⟨(some 56), none, .mov (.tmp 17)⟩,
     ⟨(some 57), none, .bin .neq (.tmp 56) (.const (.int .i64 0))⟩,
     ⟨(some 58), none, .mov (.tmp 57)⟩,
     ⟨(some 59), (some (58, false)), .fadr 2 (.tmp 16)⟩,
     ⟨(some 60), (some (58, false)), .load (.tmp 59) none⟩,
     ⟨(some 61), (some (58, false)), .mov (.tmp 11)⟩,
     ⟨(some 62), (some (58, false)), .mov (.tmp 13)⟩,
     ⟨(some 63), (some (58, false)), .bin .sub (.tmp 61) (.tmp 62)⟩,
     ⟨(some 64), (some (58, false)), .bin .neq (.tmp 60) (.tmp 63)⟩,
     ⟨(some 65), none, .pick (.tmp 58) (.const (.bool true)) (.tmp 64)⟩,
     ⟨(some 66), none, .mov (.tmp 65)⟩,
     ⟨(some 67), (some (66, false)), .mov (.tmp 12)⟩,
     ⟨(some 68), (some (66, false)), .call 48 [(.tmp 67)]⟩,
     ⟨(some 69), (some (66, false)), .mov (.tmp 11)⟩,
     ⟨(some 70), (some (66, false)), .mov (.tmp 13)⟩,
     ⟨(some 71), (some (66, false)), .bin .sub (.tmp 69) (.tmp 70)⟩,
     ⟨(some 72), (some (66, false)), .bin .neq (.tmp 68) (.tmp 71)⟩,
     ⟨(some 73), none, .pick (.tmp 66) (.const (.bool true)) (.tmp 72)⟩,
     ⟨(some 74), none, .mov (.tmp 73)⟩,
     ⟨(some 75), (some (74, false)), .mov (.tmp 12)⟩,
     ⟨(some 76), (some (74, false)), .call 47 [(.tmp 75)]⟩,
     ⟨(some 77), (some (74, false)), .bin .neq (.tmp 76) (.const (.int .i64 50))⟩,
     ⟨(some 78), none, .pick (.tmp 74) (.const (.bool true)) (.tmp 77)⟩])
  (.ite (.tmp 78)
    (.seq (.reg [
       ⟨(some 10), none, .mov (.const (.bool false))⟩])
    (.ret))
    (.skip)))
 (.seq (.reg [
    ⟨(some 79), none, .mov (.tmp 2)⟩,
    ⟨(some 80), none, .mov (.tmp 11)⟩,
    ⟨(some 81), none, .mov (.tmp 13)⟩,
    ⟨(some 82), none, .bin .sub (.tmp 80) (.tmp 81)⟩,
    ⟨(some 83), none, .call 30 [(.tmp 79), (.const (.int .i64 0)), (.tmp 82)]⟩,
    ⟨(some 18), none, .mov (.tmp 83)⟩])
 (.seq (.reg [
    ⟨(some 85), none, .mov (.tmp 12)⟩,
    ⟨(some 86), none, .mov (.tmp 18)⟩,
    ⟨(some 87), none, .build [(.int .i64 0), (.int .i64 0), (.int .i64 0), (.int .i64 0), (.int .i64 0), (.int .i64 0), (.bool false)] [(0, 1, (.const (.int .i64 3))), (4, 1, (.tmp 86))]⟩,
    ⟨(some 88), none, .mkrow [(.int .i64 0), (.int .i64 0), (.int .i64 0), (.int .i64 0), (.int .i64 0), (.int .i64 0), (.bool false)] 1 [(0, 7, (.tmp 87))]⟩,
    ⟨(some 89), none, .call 46 [(.tmp 85), (.tmp 88)]⟩,
    ⟨(some 84), none, .mov (.tmp 89)⟩,
    ⟨(some 90), none, .ext 0 (.tmp 84)⟩,
    ⟨(some 91), none, .ext 1 (.tmp 84)⟩,
    ⟨(some 19), none, .alloc [(.int .i64 0), (.int .i64 0), (.int .i64 0), (.int .i64 0)]⟩,
    ⟨none, none, .store (.tmp 19) (.tmp 90) 4⟩,
    ⟨(some 20), none, .mov (.tmp 91)⟩])
 (.seq (.seq (.reg [
     ⟨(some 92), none, .mov (.tmp 20)⟩,
     ⟨(some 93), none, .bin .neq (.tmp 92) (.const (.int .i64 0))⟩,
     ⟨(some 94), none, .mov (.tmp 93)⟩,
     ⟨(some 95), (some (94, false)), .fadr 3 (.tmp 19)⟩,
     ⟨(some 96), (some (94, false)), .load (.tmp 95) none⟩,
     ⟨(some 97), (some (94, false)), .mov (.tmp 18)⟩,
     ⟨(some 98), (some (94, false)), .bin .neq (.tmp 96) (.tmp 97)⟩,
     ⟨(some 99), none, .pick (.tmp 94) (.const (.bool true)) (.tmp 98)⟩,
     ⟨(some 100), none, .mov (.tmp 99)⟩,
     ⟨(some 101), (some (100, false)), .mov (.tmp 12)⟩,
     ⟨(some 102), (some (100, false)), .call 48 [(.tmp 101)]⟩,
     ⟨(some 103), (some (100, false)), .mov (.tmp 11)⟩,
     ⟨(some 104), (some (100, false)), .mov (.tmp 13)⟩,
     ⟨(some 105), (some (100, false)), .bin .sub (.tmp 103) (.tmp 104)⟩,
     ⟨(some 106), (some (100, false)), .mov (.tmp 18)⟩,
     ⟨(some 107), (some (100, false)), .bin .sub (.tmp 105) (.tmp 106)⟩,
     ⟨(some 108), (some (100, false)), .bin .neq (.tmp 102) (.tmp 107)⟩,
     ⟨(some 109), none, .pick (.tmp 100) (.const (.bool true)) (.tmp 108)⟩])
  (.ite (.tmp 109)
    (.seq (.reg [
       ⟨(some 10), none, .mov (.const (.bool false))⟩])
    (.ret))
    (.skip)))
 (.seq (.reg [
    ⟨(some 110), none, .mov (.tmp 3)⟩,
    ⟨(some 111), none, .call 30 [(.tmp 110), (.const (.int .i64 0)), (.const (.int .i64 999))]⟩,
    ⟨(some 112), none, .bin .add (.const (.int .i64 1)) (.tmp 111)⟩,
    ⟨(some 21), none, .mov (.tmp 112)⟩])
 (.seq (.reg [
    ⟨(some 113), none, .mov (.tmp 11)⟩,
    ⟨(some 114), none, .mov (.tmp 13)⟩,
    ⟨(some 115), none, .bin .sub (.tmp 113) (.tmp 114)⟩,
    ⟨(some 116), none, .mov (.tmp 18)⟩,
    ⟨(some 117), none, .bin .sub (.tmp 115) (.tmp 116)⟩,
    ⟨(some 118), none, .mov (.tmp 21)⟩,
    ⟨(some 119), none, .bin .add (.tmp 117) (.tmp 118)⟩,
    ⟨(some 120), none, .build [(.int .i64 0), (.int .i64 0), (.int .i64 0), (.int .i64 0), (.int .i64 0), (.int .i64 0), (.bool false)] [(0, 1, (.const (.int .i64 3))), (4, 1, (.tmp 119))]⟩,
    ⟨(some 22), none, .alloc [(.int .i64 0), (.int .i64 0), (.int .i64 0), (.int .i64 0), (.int .i64 0), (.int .i64 0), (.bool false)]⟩,
    ⟨none, none, .store (.tmp 22) (.tmp 120) 7⟩])
 (.seq (.seq (.reg [
     ⟨(some 121), none, .mov (.tmp 4)⟩,
     ⟨(some 122), none, .call 30 [(.tmp 121), (.const (.int .i64 0)), (.const (.int .i64 4))]⟩])
  (.block 0
    (.seq (.reg [
       ⟨(some 124), none, .bin .eql (.tmp 122) (.const (.int .i64 0))⟩,
       ⟨(some 123), none, .mov (.tmp 124)⟩])
    (.ite (.tmp 123)
      (.reg [
        ⟨(some 125), none, .mov (.tmp 21)⟩,
        ⟨(some 126), none, .build [(.int .i64 0), (.int .i64 0), (.int .i64 0), (.int .i64 0), (.int .i64 0), (.int .i64 0), (.bool false)] [(0, 1, (.const (.int .i64 3))), (1, 1, (.tmp 125))]⟩,
        ⟨none, none, .store (.tmp 22) (.tmp 126) 7⟩])
      (.seq (.reg [
         ⟨(some 128), none, .bin .eql (.tmp 122) (.const (.int .i64 1))⟩,
         ⟨(some 127), none, .mov (.tmp 128)⟩])
      (.ite (.tmp 127)
        (.reg [
          ⟨(some 129), none, .mov (.tmp 21)⟩,
          ⟨(some 130), none, .build [(.int .i64 0), (.int .i64 0), (.int .i64 0), (.int .i64 0), (.int .i64 0), (.int .i64 0), (.bool false)] [(0, 1, (.const (.int .i64 3))), (3, 1, (.tmp 129))]⟩,
          ⟨none, none, .store (.tmp 22) (.tmp 130) 7⟩])
        (.seq (.reg [
           ⟨(some 132), none, .bin .eql (.tmp 122) (.const (.int .i64 2))⟩,
           ⟨(some 131), none, .mov (.tmp 132)⟩])
        (.ite (.tmp 131)
          (.reg [
            ⟨(some 133), none, .build [(.int .i64 0), (.int .i64 0), (.int .i64 0), (.int .i64 0), (.int .i64 0), (.int .i64 0), (.bool false)] [(0, 1, (.const (.int .i64 3))), (6, 1, (.const (.bool true)))]⟩,
            ⟨none, none, .store (.tmp 22) (.tmp 133) 7⟩])
          (.seq (.reg [
             ⟨(some 135), none, .bin .eql (.tmp 122) (.const (.int .i64 3))⟩,
             ⟨(some 134), none, .mov (.tmp 135)⟩])
          (.ite (.tmp 134)
            (.reg [
              ⟨(some 136), none, .mov (.tmp 21)⟩,
              ⟨(some 137), none, .bin .rem (.tmp 136) (.const (.int .i64 12))⟩,
              ⟨(some 138), none, .bin .add (.const (.int .i64 1)) (.tmp 137)⟩,
              ⟨(some 139), none, .build [(.int .i64 0), (.int .i64 0), (.int .i64 0), (.int .i64 0), (.int .i64 0), (.int .i64 0), (.bool false)] [(0, 1, (.const (.int .i64 3))), (5, 1, (.tmp 138))]⟩,
              ⟨none, none, .store (.tmp 22) (.tmp 139) 7⟩])
            (.skip)))))))))))
 (.seq (.reg [
    ⟨(some 141), none, .mov (.tmp 12)⟩,
    ⟨(some 142), none, .load (.tmp 22) (some 7)⟩,
    ⟨(some 143), none, .mkrow [(.int .i64 0), (.int .i64 0), (.int .i64 0), (.int .i64 0), (.int .i64 0), (.int .i64 0), (.bool false)] 1 [(0, 7, (.tmp 142))]⟩,
    ⟨(some 144), none, .call 46 [(.tmp 141), (.tmp 143)]⟩,
    ⟨(some 140), none, .mov (.tmp 144)⟩,
    ⟨(some 145), none, .ext 0 (.tmp 140)⟩,
    ⟨(some 146), none, .ext 1 (.tmp 140)⟩,
    ⟨(some 23), none, .alloc [(.int .i64 0), (.int .i64 0), (.int .i64 0), (.int .i64 0)]⟩,
    ⟨none, none, .store (.tmp 23) (.tmp 145) 4⟩,
    ⟨(some 24), none, .mov (.tmp 146)⟩])
 (.seq (.reg [
    ⟨(some 148), none, .mov (.tmp 12)⟩,
    ⟨(some 149), none, .call 57 [(.tmp 148), (.const (.int .i64 3))]⟩,
    ⟨(some 147), none, .mov (.tmp 149)⟩,
    ⟨(some 150), none, .ext 0 (.tmp 147)⟩,
    ⟨(some 151), none, .ext 1 (.tmp 147)⟩,
    ⟨(some 25), none, .alloc [(.int .i64 0), (.int .i64 0), (.int .i64 0), (.int .i64 0), (.bool false)]⟩,
    ⟨none, none, .store (.tmp 25) (.tmp 150) 5⟩,
    ⟨(some 26), none, .mov (.tmp 151)⟩])
 (.seq (.reg [
    ⟨(some 152), none, .mov (.tmp 24)⟩,
    ⟨(some 153), none, .bin .eql (.tmp 152) (.const (.int .i64 3))⟩,
    ⟨(some 154), none, .mov (.tmp 153)⟩,
    ⟨(some 155), (some (154, true)), .mov (.tmp 26)⟩,
    ⟨(some 156), none, .pick (.tmp 154) (.tmp 155) (.const (.bool false))⟩,
    ⟨(some 157), none, .mov (.tmp 156)⟩,
    ⟨(some 158), (some (157, true)), .fadr 4 (.tmp 25)⟩,
    ⟨(some 159), (some (157, true)), .load (.tmp 158) none⟩,
    ⟨(some 160), none, .pick (.tmp 157) (.tmp 159) (.const (.bool false))⟩,
    ⟨(some 161), none, .mov (.tmp 160)⟩,
    ⟨(some 162), (some (161, true)), .fadr 0 (.tmp 25)⟩,
    ⟨(some 163), (some (161, true)), .fadr 1 (.tmp 162)⟩,
    ⟨(some 164), (some (161, true)), .load (.tmp 163) none⟩,
    ⟨(some 165), (some (161, true)), .bin .eql (.tmp 164) (.const (.int .i64 0))⟩,
    ⟨(some 166), none, .pick (.tmp 161) (.tmp 165) (.const (.bool false))⟩,
    ⟨(some 167), none, .mov (.tmp 166)⟩,
    ⟨(some 168), (some (167, true)), .fadr 2 (.tmp 25)⟩,
    ⟨(some 169), (some (167, true)), .load (.tmp 168) none⟩,
    ⟨(some 170), (some (167, true)), .mov (.tmp 11)⟩,
    ⟨(some 171), (some (167, true)), .mov (.tmp 13)⟩,
    ⟨(some 172), (some (167, true)), .bin .sub (.tmp 170) (.tmp 171)⟩,
    ⟨(some 173), (some (167, true)), .mov (.tmp 18)⟩,
    ⟨(some 174), (some (167, true)), .bin .sub (.tmp 172) (.tmp 173)⟩,
    ⟨(some 175), (some (167, true)), .bin .eql (.tmp 169) (.tmp 174)⟩,
    ⟨(some 176), none, .pick (.tmp 167) (.tmp 175) (.const (.bool false))⟩,
    ⟨(some 177), none, .mov (.tmp 176)⟩,
    ⟨(some 178), (some (177, true)), .call 11 []⟩,
    ⟨(some 179), none, .pick (.tmp 177) (.tmp 178) (.const (.bool false))⟩,
    ⟨(some 10), none, .mov (.tmp 179)⟩])
 (.ret)))))))))))))))))⟩
theorem st13 : stF Try.prog qt 13 = some il13 := by kernel_rfl
abbrev r13_0 : IL := il13.body
def c13_0 : IL := (splitS 2 r13_0).1
def r13_1 : IL := (splitS 2 r13_0).2
def c13_1 : IL := (splitS 9 r13_1).1
def r13_2 : IL := (splitS 9 r13_1).2
def c13_2 : IL := (splitS 0 r13_2).1
def r13_3 : IL := (splitS 0 r13_2).2
def hn13h (v0 v1 v2 v3 v4 b : Int) (a1 : Option Addr) (c1 : Nat) (H X1 : Heap) : Hs := (.use 26000028 (sI b) ⟨[], []⟩ (.use 26000033 (.ptr 2 0) ⟨[], [.blk .fix [(.raw (.slice a1 2 c1))], .seg X1]⟩ .nil))
theorem tree13h (v0 v1 v2 v3 v4 b : Int) (a1 : Option Addr) (c1 : Nat) (H X1 : Heap) : pieceS tblO (gE 0) (cE 0) 300 (fun i => (exL i r13_1 || resLv il13.res i)) c13_0 (hn13h v0 v1 v2 v3 v4 b a1 c1 H X1) (frS 180 [(0, (sI v0)), (1, (sI v1)), (2, (sI v2)), (3, (sI v3)), (4, (sI v4))]) [.seg H] =
(.claim (opA (Plain.env tblO (gE 0)) (.call 30 [(.const (.int .i64 v0)), (.const (.int .i64 1)), (.const (.int .i64 1073741824))]) [] (denH [.seg H]) = some ((.int .i64 b), denH [.seg H]))
 (.claim (opA (Plain.env tblO (gE 0)) (.call 45 [(.const (denV (ofs [.seg H, .blk .fix [(sI 3), (sI b), (sI 7), (sI 50)]]) (.sl 1 0 2 2)))]) [] (denH [.seg H, .blk .fix [(sI 3), (sI b), (sI 7), (sI 50)]]) = some ((denV (ofs [.seg H, .blk .fix [(sI 3), (sI b), (sI 7), (sI 50)], .blk .fix [(.raw (.slice a1 2 c1))], .seg X1]) (.ptr 2 0)), denH [.seg H, .blk .fix [(sI 3), (sI b), (sI 7), (sI 50)], .blk .fix [(.raw (.slice a1 2 c1))], .seg X1]))
 (.ret .normal (frS 180 [(1, (sI v1)), (2, (sI v2)), (3, (sI v3)), (4, (sI v4)), (10, (sB false)), (11, (sI b)), (12, (.ptr 2 0))]) [.seg H, .blk .fix [(sI 3), (sI b), (sI 7), (sI 50)], .blk .fix [(.raw (.slice a1 2 c1))], .seg X1]))) := by kernel_rfl
def hn13m (v1 v2 v3 v4 b x u k w m n z : Int) (a1 a2 a3 : Option Addr) (c1 c2 c3 : Nat) (A B X1 X2 X3 : Heap) : Hs := (.con (.use 26000038 (sI x) ⟨[], []⟩ (.use 26000043 (.raw (.tuple ⟨[(.agg ⟨[(.int .i64 0), (.int .i64 0), (.int .i64 0), (.int .i64 0)]⟩), (.int .i64 3)]⟩)) ⟨[], [.seg X1]⟩ (.con (.use 26000053 (.raw (.tuple ⟨[(.agg ⟨[(.int .i64 x), (.int .i64 0), (.int .i64 u), (.int .i64 0)]⟩), (.int .i64 0)]⟩)) ⟨[(1, .blk .fix [(.raw (.slice a2 2 c2))])], [.seg X2]⟩ (.con (.con (.con (.con (.con (.pur 10000063 (.int .i64 u) (.con (.pur 10000064 (.bool false) (.con (.con (.con (.use 26000068 (sI u) ⟨[], []⟩ (.con (.con (.con (.pur 10000071 (.int .i64 u) (.con (.pur 10000072 (.bool false) (.con (.con (.con (.use 26000076 (sI 50) ⟨[], []⟩ (.con (.con (.con (.pur 10000082 (.int .i64 u) (.use 26000083 (sI k) ⟨[], []⟩ (.use 26000089 (.raw (.tuple ⟨[(.agg ⟨[(.int .i64 0), (.int .i64 0), (.int .i64 0), (.int .i64 k)]⟩), (.int .i64 0)]⟩)) ⟨[(1, .blk .fix [(.raw (.slice a3 2 c3))])], [.seg X3]⟩ (.con (.con (.con (.con (.pur 10000098 (.bool false) (.con (.con (.con (.use 26000102 (sI w) ⟨[], []⟩ (.con (.con (.con (.pur 10000105 (.int .i64 u) (.con (.con (.pur 10000107 (.int .i64 w) (.con (.pur 10000108 (.bool false) (.con (.con (.use 26000111 (sI m) ⟨[], []⟩ (.pur 10000112 (.int .i64 n) (.pur 10000115 (.int .i64 u) (.pur 10000117 (.int .i64 w) (.pur 10000119 (.int .i64 z) .nil))))))))))))))))))))))))))))))))))))))))))))))))))))))))))
theorem tree13m (v1 v2 v3 v4 b x u k w m n z : Int) (a1 a2 a3 : Option Addr) (c1 c2 c3 : Nat) (A B X1 X2 X3 : Heap) : pieceS tblO (gE 0) (cE 0) 400 (fun i => (exL i r13_2 || resLv il13.res i)) c13_1 (hn13m v1 v2 v3 v4 b x u k w m n z a1 a2 a3 c1 c2 c3 A B X1 X2 X3) (frS 180 [(1, (sI v1)), (2, (sI v2)), (3, (sI v3)), (4, (sI v4)), (10, (sB false)), (11, (sI b)), (12, (.ptr 1 0))]) [.seg A, .blk .fix [(.raw (.slice a1 2 c1))], .seg B] =
(.claim (opA (Plain.env tblO (gE 0)) (.call 30 [(.const (.int .i64 v1)), (.const (.int .i64 0)), (.const (.int .i64 b))]) [] (denH [.seg A, .blk .fix [(.raw (.slice a1 2 c1))], .seg B]) = some ((.int .i64 x), denH [.seg A, .blk .fix [(.raw (.slice a1 2 c1))], .seg B]))
 (.claim (opA (Plain.env tblO (gE 0)) (.call 46 [(.const (denV (ofs [.seg A, .blk .fix [(.raw (.slice a1 2 c1))], .seg B, .blk .fix [(sI 7), (sI 0), (sI 0), (sI 0), (sI 1), (sI 0), (sB false)]]) (.ptr 1 0))), (.const (denV (ofs [.seg A, .blk .fix [(.raw (.slice a1 2 c1))], .seg B, .blk .fix [(sI 7), (sI 0), (sI 0), (sI 0), (sI 1), (sI 0), (sB false)]]) (.sl 3 0 1 1)))]) [] (denH [.seg A, .blk .fix [(.raw (.slice a1 2 c1))], .seg B, .blk .fix [(sI 7), (sI 0), (sI 0), (sI 0), (sI 1), (sI 0), (sB false)]]) = some ((.tuple ⟨[(.agg ⟨[(.int .i64 0), (.int .i64 0), (.int .i64 0), (.int .i64 0)]⟩), (.int .i64 3)]⟩), denH [.seg A, .blk .fix [(.raw (.slice a1 2 c1))], .seg B, .blk .fix [(sI 7), (sI 0), (sI 0), (sI 0), (sI 1), (sI 0), (sB false)], .seg X1]))
 (.claim (opA (Plain.env tblO (gE 0)) (.call 46 [(.const (denV (ofs [.seg A, .blk .fix [(.raw (.slice a1 2 c1))], .seg B, .blk .fix [(sI 7), (sI 0), (sI 0), (sI 0), (sI 1), (sI 0), (sB false)], .seg X1, .blk .fix [(sI 0), (sI 0), (sI 0), (sI 0)], .blk .fix [(sI 3), (sI x), (sI 0), (sI 0), (sI 0), (sI 0), (sB true)]]) (.ptr 1 0))), (.const (denV (ofs [.seg A, .blk .fix [(.raw (.slice a1 2 c1))], .seg B, .blk .fix [(sI 7), (sI 0), (sI 0), (sI 0), (sI 1), (sI 0), (sB false)], .seg X1, .blk .fix [(sI 0), (sI 0), (sI 0), (sI 0)], .blk .fix [(sI 3), (sI x), (sI 0), (sI 0), (sI 0), (sI 0), (sB true)]]) (.sl 6 0 1 1)))]) [] (denH [.seg A, .blk .fix [(.raw (.slice a1 2 c1))], .seg B, .blk .fix [(sI 7), (sI 0), (sI 0), (sI 0), (sI 1), (sI 0), (sB false)], .seg X1, .blk .fix [(sI 0), (sI 0), (sI 0), (sI 0)], .blk .fix [(sI 3), (sI x), (sI 0), (sI 0), (sI 0), (sI 0), (sB true)]]) = some ((.tuple ⟨[(.agg ⟨[(.int .i64 x), (.int .i64 0), (.int .i64 u), (.int .i64 0)]⟩), (.int .i64 0)]⟩), denH [.seg A, .blk .fix [(.raw (.slice a2 2 c2))], .seg B, .blk .fix [(sI 7), (sI 0), (sI 0), (sI 0), (sI 1), (sI 0), (sB false)], .seg X1, .blk .fix [(sI 0), (sI 0), (sI 0), (sI 0)], .blk .fix [(sI 3), (sI x), (sI 0), (sI 0), (sI 0), (sI 0), (sB true)], .seg X2]))
 (.claim (opA (Plain.env tblO (gE 0)) (.bin .sub (.const (.int .i64 b)) (.const (.int .i64 x))) [] [] = some ((.int .i64 u), []))
 (.claim (opA (Plain.env tblO (gE 0)) (.bin .neq (.const (.int .i64 u)) (.const (.int .i64 u))) [] [] = some ((.bool false), []))
 (.claim (opA (Plain.env tblO (gE 0)) (.call 48 [(.const (denV (ofs [.seg A, .blk .fix [(.raw (.slice a2 2 c2))], .seg B, .blk .fix [(sI 7), (sI 0), (sI 0), (sI 0), (sI 1), (sI 0), (sB false)], .seg X1, .blk .fix [(sI 0), (sI 0), (sI 0), (sI 0)], .blk .fix [(sI 3), (sI x), (sI 0), (sI 0), (sI 0), (sI 0), (sB true)], .seg X2, .blk .fix [(sI x), (sI 0), (sI u), (sI 0)]]) (.ptr 1 0)))]) [] (denH [.seg A, .blk .fix [(.raw (.slice a2 2 c2))], .seg B, .blk .fix [(sI 7), (sI 0), (sI 0), (sI 0), (sI 1), (sI 0), (sB false)], .seg X1, .blk .fix [(sI 0), (sI 0), (sI 0), (sI 0)], .blk .fix [(sI 3), (sI x), (sI 0), (sI 0), (sI 0), (sI 0), (sB true)], .seg X2, .blk .fix [(sI x), (sI 0), (sI u), (sI 0)]]) = some ((.int .i64 u), denH [.seg A, .blk .fix [(.raw (.slice a2 2 c2))], .seg B, .blk .fix [(sI 7), (sI 0), (sI 0), (sI 0), (sI 1), (sI 0), (sB false)], .seg X1, .blk .fix [(sI 0), (sI 0), (sI 0), (sI 0)], .blk .fix [(sI 3), (sI x), (sI 0), (sI 0), (sI 0), (sI 0), (sB true)], .seg X2, .blk .fix [(sI x), (sI 0), (sI u), (sI 0)]]))
 (.claim (opA (Plain.env tblO (gE 0)) (.bin .sub (.const (.int .i64 b)) (.const (.int .i64 x))) [] [] = some ((.int .i64 u), []))
 (.claim (opA (Plain.env tblO (gE 0)) (.bin .neq (.const (.int .i64 u)) (.const (.int .i64 u))) [] [] = some ((.bool false), []))
 (.claim (opA (Plain.env tblO (gE 0)) (.call 47 [(.const (denV (ofs [.seg A, .blk .fix [(.raw (.slice a2 2 c2))], .seg B, .blk .fix [(sI 7), (sI 0), (sI 0), (sI 0), (sI 1), (sI 0), (sB false)], .seg X1, .blk .fix [(sI 0), (sI 0), (sI 0), (sI 0)], .blk .fix [(sI 3), (sI x), (sI 0), (sI 0), (sI 0), (sI 0), (sB true)], .seg X2, .blk .fix [(sI x), (sI 0), (sI u), (sI 0)]]) (.ptr 1 0)))]) [] (denH [.seg A, .blk .fix [(.raw (.slice a2 2 c2))], .seg B, .blk .fix [(sI 7), (sI 0), (sI 0), (sI 0), (sI 1), (sI 0), (sB false)], .seg X1, .blk .fix [(sI 0), (sI 0), (sI 0), (sI 0)], .blk .fix [(sI 3), (sI x), (sI 0), (sI 0), (sI 0), (sI 0), (sB true)], .seg X2, .blk .fix [(sI x), (sI 0), (sI u), (sI 0)]]) = some ((.int .i64 50), denH [.seg A, .blk .fix [(.raw (.slice a2 2 c2))], .seg B, .blk .fix [(sI 7), (sI 0), (sI 0), (sI 0), (sI 1), (sI 0), (sB false)], .seg X1, .blk .fix [(sI 0), (sI 0), (sI 0), (sI 0)], .blk .fix [(sI 3), (sI x), (sI 0), (sI 0), (sI 0), (sI 0), (sB true)], .seg X2, .blk .fix [(sI x), (sI 0), (sI u), (sI 0)]]))
 (.claim (opA (Plain.env tblO (gE 0)) (.bin .sub (.const (.int .i64 b)) (.const (.int .i64 x))) [] [] = some ((.int .i64 u), []))
 (.claim (opA (Plain.env tblO (gE 0)) (.call 30 [(.const (.int .i64 v2)), (.const (.int .i64 0)), (.const (.int .i64 u))]) [] (denH [.seg A, .blk .fix [(.raw (.slice a2 2 c2))], .seg B, .blk .fix [(sI 7), (sI 0), (sI 0), (sI 0), (sI 1), (sI 0), (sB false)], .seg X1, .blk .fix [(sI 0), (sI 0), (sI 0), (sI 0)], .blk .fix [(sI 3), (sI x), (sI 0), (sI 0), (sI 0), (sI 0), (sB true)], .seg X2, .blk .fix [(sI x), (sI 0), (sI u), (sI 0)]]) = some ((.int .i64 k), denH [.seg A, .blk .fix [(.raw (.slice a2 2 c2))], .seg B, .blk .fix [(sI 7), (sI 0), (sI 0), (sI 0), (sI 1), (sI 0), (sB false)], .seg X1, .blk .fix [(sI 0), (sI 0), (sI 0), (sI 0)], .blk .fix [(sI 3), (sI x), (sI 0), (sI 0), (sI 0), (sI 0), (sB true)], .seg X2, .blk .fix [(sI x), (sI 0), (sI u), (sI 0)]]))
 (.claim (opA (Plain.env tblO (gE 0)) (.call 46 [(.const (denV (ofs [.seg A, .blk .fix [(.raw (.slice a2 2 c2))], .seg B, .blk .fix [(sI 7), (sI 0), (sI 0), (sI 0), (sI 1), (sI 0), (sB false)], .seg X1, .blk .fix [(sI 0), (sI 0), (sI 0), (sI 0)], .blk .fix [(sI 3), (sI x), (sI 0), (sI 0), (sI 0), (sI 0), (sB true)], .seg X2, .blk .fix [(sI x), (sI 0), (sI u), (sI 0)], .blk .fix [(sI 3), (sI 0), (sI 0), (sI 0), (sI k), (sI 0), (sB false)]]) (.ptr 1 0))), (.const (denV (ofs [.seg A, .blk .fix [(.raw (.slice a2 2 c2))], .seg B, .blk .fix [(sI 7), (sI 0), (sI 0), (sI 0), (sI 1), (sI 0), (sB false)], .seg X1, .blk .fix [(sI 0), (sI 0), (sI 0), (sI 0)], .blk .fix [(sI 3), (sI x), (sI 0), (sI 0), (sI 0), (sI 0), (sB true)], .seg X2, .blk .fix [(sI x), (sI 0), (sI u), (sI 0)], .blk .fix [(sI 3), (sI 0), (sI 0), (sI 0), (sI k), (sI 0), (sB false)]]) (.sl 9 0 1 1)))]) [] (denH [.seg A, .blk .fix [(.raw (.slice a2 2 c2))], .seg B, .blk .fix [(sI 7), (sI 0), (sI 0), (sI 0), (sI 1), (sI 0), (sB false)], .seg X1, .blk .fix [(sI 0), (sI 0), (sI 0), (sI 0)], .blk .fix [(sI 3), (sI x), (sI 0), (sI 0), (sI 0), (sI 0), (sB true)], .seg X2, .blk .fix [(sI x), (sI 0), (sI u), (sI 0)], .blk .fix [(sI 3), (sI 0), (sI 0), (sI 0), (sI k), (sI 0), (sB false)]]) = some ((.tuple ⟨[(.agg ⟨[(.int .i64 0), (.int .i64 0), (.int .i64 0), (.int .i64 k)]⟩), (.int .i64 0)]⟩), denH [.seg A, .blk .fix [(.raw (.slice a3 2 c3))], .seg B, .blk .fix [(sI 7), (sI 0), (sI 0), (sI 0), (sI 1), (sI 0), (sB false)], .seg X1, .blk .fix [(sI 0), (sI 0), (sI 0), (sI 0)], .blk .fix [(sI 3), (sI x), (sI 0), (sI 0), (sI 0), (sI 0), (sB true)], .seg X2, .blk .fix [(sI x), (sI 0), (sI u), (sI 0)], .blk .fix [(sI 3), (sI 0), (sI 0), (sI 0), (sI k), (sI 0), (sB false)], .seg X3]))
 (.claim (opA (Plain.env tblO (gE 0)) (.bin .neq (.const (.int .i64 k)) (.const (.int .i64 k))) [] [] = some ((.bool false), []))
 (.claim (opA (Plain.env tblO (gE 0)) (.call 48 [(.const (denV (ofs [.seg A, .blk .fix [(.raw (.slice a3 2 c3))], .seg B, .blk .fix [(sI 7), (sI 0), (sI 0), (sI 0), (sI 1), (sI 0), (sB false)], .seg X1, .blk .fix [(sI 0), (sI 0), (sI 0), (sI 0)], .blk .fix [(sI 3), (sI x), (sI 0), (sI 0), (sI 0), (sI 0), (sB true)], .seg X2, .blk .fix [(sI x), (sI 0), (sI u), (sI 0)], .blk .fix [(sI 3), (sI 0), (sI 0), (sI 0), (sI k), (sI 0), (sB false)], .seg X3, .blk .fix [(sI 0), (sI 0), (sI 0), (sI k)]]) (.ptr 1 0)))]) [] (denH [.seg A, .blk .fix [(.raw (.slice a3 2 c3))], .seg B, .blk .fix [(sI 7), (sI 0), (sI 0), (sI 0), (sI 1), (sI 0), (sB false)], .seg X1, .blk .fix [(sI 0), (sI 0), (sI 0), (sI 0)], .blk .fix [(sI 3), (sI x), (sI 0), (sI 0), (sI 0), (sI 0), (sB true)], .seg X2, .blk .fix [(sI x), (sI 0), (sI u), (sI 0)], .blk .fix [(sI 3), (sI 0), (sI 0), (sI 0), (sI k), (sI 0), (sB false)], .seg X3, .blk .fix [(sI 0), (sI 0), (sI 0), (sI k)]]) = some ((.int .i64 w), denH [.seg A, .blk .fix [(.raw (.slice a3 2 c3))], .seg B, .blk .fix [(sI 7), (sI 0), (sI 0), (sI 0), (sI 1), (sI 0), (sB false)], .seg X1, .blk .fix [(sI 0), (sI 0), (sI 0), (sI 0)], .blk .fix [(sI 3), (sI x), (sI 0), (sI 0), (sI 0), (sI 0), (sB true)], .seg X2, .blk .fix [(sI x), (sI 0), (sI u), (sI 0)], .blk .fix [(sI 3), (sI 0), (sI 0), (sI 0), (sI k), (sI 0), (sB false)], .seg X3, .blk .fix [(sI 0), (sI 0), (sI 0), (sI k)]]))
 (.claim (opA (Plain.env tblO (gE 0)) (.bin .sub (.const (.int .i64 b)) (.const (.int .i64 x))) [] [] = some ((.int .i64 u), []))
 (.claim (opA (Plain.env tblO (gE 0)) (.bin .sub (.const (.int .i64 u)) (.const (.int .i64 k))) [] [] = some ((.int .i64 w), []))
 (.claim (opA (Plain.env tblO (gE 0)) (.bin .neq (.const (.int .i64 w)) (.const (.int .i64 w))) [] [] = some ((.bool false), []))
 (.claim (opA (Plain.env tblO (gE 0)) (.call 30 [(.const (.int .i64 v3)), (.const (.int .i64 0)), (.const (.int .i64 999))]) [] (denH [.seg A, .blk .fix [(.raw (.slice a3 2 c3))], .seg B, .blk .fix [(sI 7), (sI 0), (sI 0), (sI 0), (sI 1), (sI 0), (sB false)], .seg X1, .blk .fix [(sI 0), (sI 0), (sI 0), (sI 0)], .blk .fix [(sI 3), (sI x), (sI 0), (sI 0), (sI 0), (sI 0), (sB true)], .seg X2, .blk .fix [(sI x), (sI 0), (sI u), (sI 0)], .blk .fix [(sI 3), (sI 0), (sI 0), (sI 0), (sI k), (sI 0), (sB false)], .seg X3, .blk .fix [(sI 0), (sI 0), (sI 0), (sI k)]]) = some ((.int .i64 m), denH [.seg A, .blk .fix [(.raw (.slice a3 2 c3))], .seg B, .blk .fix [(sI 7), (sI 0), (sI 0), (sI 0), (sI 1), (sI 0), (sB false)], .seg X1, .blk .fix [(sI 0), (sI 0), (sI 0), (sI 0)], .blk .fix [(sI 3), (sI x), (sI 0), (sI 0), (sI 0), (sI 0), (sB true)], .seg X2, .blk .fix [(sI x), (sI 0), (sI u), (sI 0)], .blk .fix [(sI 3), (sI 0), (sI 0), (sI 0), (sI k), (sI 0), (sB false)], .seg X3, .blk .fix [(sI 0), (sI 0), (sI 0), (sI k)]]))
 (.claim (opA (Plain.env tblO (gE 0)) (.bin .add (.const (.int .i64 1)) (.const (.int .i64 m))) [] [] = some ((.int .i64 n), []))
 (.claim (opA (Plain.env tblO (gE 0)) (.bin .sub (.const (.int .i64 b)) (.const (.int .i64 x))) [] [] = some ((.int .i64 u), []))
 (.claim (opA (Plain.env tblO (gE 0)) (.bin .sub (.const (.int .i64 u)) (.const (.int .i64 k))) [] [] = some ((.int .i64 w), []))
 (.claim (opA (Plain.env tblO (gE 0)) (.bin .add (.const (.int .i64 w)) (.const (.int .i64 n))) [] [] = some ((.int .i64 z), []))
 (.ret .normal (frS 180 [(4, (sI v4)), (10, (sB false)), (11, (sI b)), (12, (.ptr 1 0)), (13, (sI x)), (18, (sI k)), (21, (sI n)), (22, (.ptr 12 0))]) [.seg A, .blk .fix [(.raw (.slice a3 2 c3))], .seg B, .blk .fix [(sI 7), (sI 0), (sI 0), (sI 0), (sI 1), (sI 0), (sB false)], .seg X1, .blk .fix [(sI 0), (sI 0), (sI 0), (sI 0)], .blk .fix [(sI 3), (sI x), (sI 0), (sI 0), (sI 0), (sI 0), (sB true)], .seg X2, .blk .fix [(sI x), (sI 0), (sI u), (sI 0)], .blk .fix [(sI 3), (sI 0), (sI 0), (sI 0), (sI k), (sI 0), (sB false)], .seg X3, .blk .fix [(sI 0), (sI 0), (sI 0), (sI k)], .blk .fix [(sI 3), (sI 0), (sI 0), (sI 0), (sI z), (sI 0), (sB false)]]))))))))))))))))))))))) := by kernel_rfl
def hn13s (v4 b x k n q o f : Int) (y : R7) (a3 : Option Addr) (c3 : Nat) (A B : Heap) : Hs := (.use 26000122 (sI q) ⟨[], []⟩ (.sym .nil (.sym .nil (.sym .nil (.sym (.pur 10000137 (.int .i64 o) (.pur 10000138 (.int .i64 f) .nil)) .nil)))))
theorem tree13s (v4 b x k n q o f : Int) (y : R7) (a3 : Option Addr) (c3 : Nat) (A B : Heap) : pieceS tblO (gE 0) (cE 0) 400 (fun i => (exL i r13_3 || resLv il13.res i)) c13_2 (hn13s v4 b x k n q o f y a3 c3 A B) (frS 180 [(4, (sI v4)), (10, (sB false)), (11, (sI b)), (12, (.ptr 1 0)), (13, (sI x)), (18, (sI k)), (21, (sI n)), (22, (.ptr 3 0))]) [.seg A, .blk .fix [(.raw (.slice a3 2 c3))], .seg B, .blk .fix [(sI y.a), (sI y.b), (sI y.c), (sI y.d), (sI y.e), (sI y.f), (sB y.g)]] =
(.claim (opA (Plain.env tblO (gE 0)) (.call 30 [(.const (.int .i64 v4)), (.const (.int .i64 0)), (.const (.int .i64 4))]) [] (denH [.seg A, .blk .fix [(.raw (.slice a3 2 c3))], .seg B, .blk .fix [(sI y.a), (sI y.b), (sI y.c), (sI y.d), (sI y.e), (sI y.f), (sB y.g)]]) = some ((.int .i64 q), denH [.seg A, .blk .fix [(.raw (.slice a3 2 c3))], .seg B, .blk .fix [(sI y.a), (sI y.b), (sI y.c), (sI y.d), (sI y.e), (sI y.f), (sB y.g)]]))
 (.br (q == 0)
 (.ret .normal (frS 180 [(10, (sB false)), (11, (sI b)), (12, (.ptr 1 0)), (13, (sI x)), (18, (sI k)), (22, (.ptr 3 0))]) [.seg A, .blk .fix [(.raw (.slice a3 2 c3))], .seg B, .blk .fix [(sI 3), (sI n), (sI 0), (sI 0), (sI 0), (sI 0), (sB false)]])
 (.br (q == 1)
 (.ret .normal (frS 180 [(10, (sB false)), (11, (sI b)), (12, (.ptr 1 0)), (13, (sI x)), (18, (sI k)), (22, (.ptr 3 0))]) [.seg A, .blk .fix [(.raw (.slice a3 2 c3))], .seg B, .blk .fix [(sI 3), (sI 0), (sI 0), (sI n), (sI 0), (sI 0), (sB false)]])
 (.br (q == 2)
 (.ret .normal (frS 180 [(10, (sB false)), (11, (sI b)), (12, (.ptr 1 0)), (13, (sI x)), (18, (sI k)), (22, (.ptr 3 0))]) [.seg A, .blk .fix [(.raw (.slice a3 2 c3))], .seg B, .blk .fix [(sI 3), (sI 0), (sI 0), (sI 0), (sI 0), (sI 0), (sB true)]])
 (.br (q == 3)
 (.claim (opA (Plain.env tblO (gE 0)) (.bin .rem (.const (.int .i64 n)) (.const (.int .i64 12))) [] [] = some ((.int .i64 o), []))
 (.claim (opA (Plain.env tblO (gE 0)) (.bin .add (.const (.int .i64 1)) (.const (.int .i64 o))) [] [] = some ((.int .i64 f), []))
 (.ret .normal (frS 180 [(10, (sB false)), (11, (sI b)), (12, (.ptr 1 0)), (13, (sI x)), (18, (sI k)), (22, (.ptr 3 0))]) [.seg A, .blk .fix [(.raw (.slice a3 2 c3))], .seg B, .blk .fix [(sI 3), (sI 0), (sI 0), (sI 0), (sI 0), (sI f), (sB false)]])))
 (.ret .normal (frS 180 [(10, (sB false)), (11, (sI b)), (12, (.ptr 1 0)), (13, (sI x)), (18, (sI k)), (22, (.ptr 3 0))]) [.seg A, .blk .fix [(.raw (.slice a3 2 c3))], .seg B, .blk .fix [(sI y.a), (sI y.b), (sI y.c), (sI y.d), (sI y.e), (sI y.f), (sB y.g)]])))))) := by kernel_rfl
def hn13t (b x k u w : Int) (y : R7) (a3 : Option Addr) (c3 : Nat) (A B X4 : Heap) : Hs := (.use 26000144 (.raw (.tuple ⟨[(.agg ⟨[(.int .i64 0), (.int .i64 0), (.int .i64 0), (.int .i64 0)]⟩), (.int .i64 3)]⟩)) ⟨[], [.seg X4]⟩ (.use 26000149 (.raw (.tuple ⟨[(.agg ⟨[(.int .i64 3), (.int .i64 0), (.int .i64 w), (.int .i64 0), (.bool true)]⟩), (.bool true)]⟩)) ⟨[], []⟩ (.con (.con (.con (.con (.con (.con (.con (.con (.con (.con (.con (.con (.con (.con (.con (.pur 10000172 (.int .i64 u) (.con (.con (.pur 10000174 (.int .i64 w) (.con (.pur 10000175 (.bool true) (.con (.con (.con .nil))))))))))))))))))))))))))
theorem tree13t (b x k u w : Int) (y : R7) (a3 : Option Addr) (c3 : Nat) (A B X4 : Heap) : pieceS tblO (gE 0) (cE 0) 400 (resLv il13.res) r13_3 (hn13t b x k u w y a3 c3 A B X4) (frS 180 [(10, (sB false)), (11, (sI b)), (12, (.ptr 1 0)), (13, (sI x)), (18, (sI k)), (22, (.ptr 3 0))]) [.seg A, .blk .fix [(.raw (.slice a3 2 c3))], .seg B, .blk .fix [(sI y.a), (sI y.b), (sI y.c), (sI y.d), (sI y.e), (sI y.f), (sB y.g)]] =
(.claim (opA (Plain.env tblO (gE 0)) (.call 46 [(.const (denV (ofs [.seg A, .blk .fix [(.raw (.slice a3 2 c3))], .seg B, .blk .fix [(sI y.a), (sI y.b), (sI y.c), (sI y.d), (sI y.e), (sI y.f), (sB y.g)], .blk .fix [(sI y.a), (sI y.b), (sI y.c), (sI y.d), (sI y.e), (sI y.f), (sB y.g)]]) (.ptr 1 0))), (.const (denV (ofs [.seg A, .blk .fix [(.raw (.slice a3 2 c3))], .seg B, .blk .fix [(sI y.a), (sI y.b), (sI y.c), (sI y.d), (sI y.e), (sI y.f), (sB y.g)], .blk .fix [(sI y.a), (sI y.b), (sI y.c), (sI y.d), (sI y.e), (sI y.f), (sB y.g)]]) (.sl 4 0 1 1)))]) [] (denH [.seg A, .blk .fix [(.raw (.slice a3 2 c3))], .seg B, .blk .fix [(sI y.a), (sI y.b), (sI y.c), (sI y.d), (sI y.e), (sI y.f), (sB y.g)], .blk .fix [(sI y.a), (sI y.b), (sI y.c), (sI y.d), (sI y.e), (sI y.f), (sB y.g)]]) = some ((.tuple ⟨[(.agg ⟨[(.int .i64 0), (.int .i64 0), (.int .i64 0), (.int .i64 0)]⟩), (.int .i64 3)]⟩), denH [.seg A, .blk .fix [(.raw (.slice a3 2 c3))], .seg B, .blk .fix [(sI y.a), (sI y.b), (sI y.c), (sI y.d), (sI y.e), (sI y.f), (sB y.g)], .blk .fix [(sI y.a), (sI y.b), (sI y.c), (sI y.d), (sI y.e), (sI y.f), (sB y.g)], .seg X4]))
 (.claim (opA (Plain.env tblO (gE 0)) (.call 57 [(.const (denV (ofs [.seg A, .blk .fix [(.raw (.slice a3 2 c3))], .seg B, .blk .fix [(sI y.a), (sI y.b), (sI y.c), (sI y.d), (sI y.e), (sI y.f), (sB y.g)], .blk .fix [(sI y.a), (sI y.b), (sI y.c), (sI y.d), (sI y.e), (sI y.f), (sB y.g)], .seg X4, .blk .fix [(sI 0), (sI 0), (sI 0), (sI 0)]]) (.ptr 1 0))), (.const (.int .i64 3))]) [] (denH [.seg A, .blk .fix [(.raw (.slice a3 2 c3))], .seg B, .blk .fix [(sI y.a), (sI y.b), (sI y.c), (sI y.d), (sI y.e), (sI y.f), (sB y.g)], .blk .fix [(sI y.a), (sI y.b), (sI y.c), (sI y.d), (sI y.e), (sI y.f), (sB y.g)], .seg X4, .blk .fix [(sI 0), (sI 0), (sI 0), (sI 0)]]) = some ((.tuple ⟨[(.agg ⟨[(.int .i64 3), (.int .i64 0), (.int .i64 w), (.int .i64 0), (.bool true)]⟩), (.bool true)]⟩), denH [.seg A, .blk .fix [(.raw (.slice a3 2 c3))], .seg B, .blk .fix [(sI y.a), (sI y.b), (sI y.c), (sI y.d), (sI y.e), (sI y.f), (sB y.g)], .blk .fix [(sI y.a), (sI y.b), (sI y.c), (sI y.d), (sI y.e), (sI y.f), (sB y.g)], .seg X4, .blk .fix [(sI 0), (sI 0), (sI 0), (sI 0)]]))
 (.claim (opA (Plain.env tblO (gE 0)) (.bin .sub (.const (.int .i64 b)) (.const (.int .i64 x))) [] [] = some ((.int .i64 u), []))
 (.claim (opA (Plain.env tblO (gE 0)) (.bin .sub (.const (.int .i64 u)) (.const (.int .i64 k))) [] [] = some ((.int .i64 w), []))
 (.claim (opA (Plain.env tblO (gE 0)) (.bin .eql (.const (.int .i64 w)) (.const (.int .i64 w))) [] [] = some ((.bool true), []))
 (.req true (.ret .ret (frS 180 [(10, (sB true))]) [.seg A, .blk .fix [(.raw (.slice a3 2 c3))], .seg B, .blk .fix [(sI y.a), (sI y.b), (sI y.c), (sI y.d), (sI y.e), (sI y.f), (sB y.g)], .blk .fix [(sI y.a), (sI y.b), (sI y.c), (sI y.d), (sI y.e), (sI y.f), (sB y.g)], .seg X4, .blk .fix [(sI 0), (sI 0), (sI 0), (sI 0)], .blk .fix [(sI 3), (sI 0), (sI w), (sI 0), (sB true)]]))))))) := by kernel_rfl
theorem one (A : Heap) : denH [.seg A] = A := by simp [denH, denL, It.den]
theorem tail {A B : Heap} {a : Option Addr} {c : Nat} {b x u k w : Int} {y : R7} (hu : u = wr (b - x)) (hw : w = wr (u - k)) (hs : RowsW 5 (A ++ some ⟨.fix, [.slice a 2 c]⟩ :: B) (.slice a 2 c) ((p2 w).map e5)) (hy : applyF (p2 w) [y] = none) :
    Wp (Plain.env tblO (gE 0)) (resLv il13.res) r13_3 (denF [.seg A, pB (.slice a 2 c), .seg B, P.lB y] (frS 180 [(10, (sB false)), (11, (sI b)), (12, (.ptr 1 0)), (13, (sI x)), (18, (sI k)), (22, (.ptr 3 0))])) (denH [.seg A, pB (.slice a 2 c), .seg B, P.lB y]) fun e s h' => (e = .normal ∨ e = .ret) ∧ ∃ v, resA s h' il13.res = some v ∧ v = .bool true := by
  have hI : ∀ f, denL f [.seg B, P.lB y] = B ++ [some ⟨.fix, e7 y⟩] := fun f => by simp [denL, It.den, den0, e7]
  have hs1 : RowsW 5 (A ++ some ⟨.fix, [.slice a 2 c]⟩ :: (B ++ [some ⟨.fix, e7 y⟩])) (.slice a 2 c) ((p2 w).map e5) := by
    have := hs.app [some ⟨.fix, e7 y⟩]; simpa using this
  obtain ⟨X4, h4⟩ := app (y := y) hI hs1 (by simp [p2])
  rw [hy] at h4
  have hI4 : ∀ f, denL f [.seg B, P.lB y, P.lB y, .seg X4, P.z4] = B ++ (some ⟨.fix, e7 y⟩ :: some ⟨.fix, e7 y⟩ :: (X4 ++ [some ⟨.fix, e4 a0⟩])) := fun f => by simp [denL, It.den, den0, e7, e4, a0]
  have hs4 : RowsW 5 (A ++ some ⟨.fix, [.slice a 2 c]⟩ :: (B ++ (some ⟨.fix, e7 y⟩ :: some ⟨.fix, e7 y⟩ :: (X4 ++ [some ⟨.fix, e4 a0⟩])))) (.slice a 2 c) ((p2 w).map e5) := by
    have := hs.app (some ⟨.fix, e7 y⟩ :: some ⟨.fix, e7 y⟩ :: (X4 ++ [some ⟨.fix, e4 a0⟩])); simpa using this
  refine Wp.tree (cE_ok 0) (tree13t b x k u w y a c A B X4) ⟨rfl, rfl⟩ ⟨h4, find57 hI4 hs4 (by simp [p2]) find_2, sub_ok _ _ _ _ hu, sub_ok _ _ _ _ hw, eq_self' _ _, rfl, .inr rfl, .bool true, rfl, rfl⟩
theorem swi {A B : Heap} {a : Option Addr} {c : Nat} {b x u k w n v4 z : Int} (hu : u = wr (b - x)) (hw : w = wr (u - k)) (hn : 1 ≤ n) (hn2 : n ≤ 1000) (hz : w < z) (hs : RowsW 5 (A ++ some ⟨.fix, [.slice a 2 c]⟩ :: B) (.slice a 2 c) ((p2 w).map e5)) :
    Wp (Plain.env tblO (gE 0)) (resLv il13.res) r13_2 (denF [.seg A, pB (.slice a 2 c), .seg B, P.lB ⟨3, 0, 0, 0, z, 0, false⟩] (frS 180 [(4, (sI v4)), (10, (sB false)), (11, (sI b)), (12, (.ptr 1 0)), (13, (sI x)), (18, (sI k)), (21, (sI n)), (22, (.ptr 3 0))])) (denH [.seg A, pB (.slice a 2 c), .seg B, P.lB ⟨3, 0, 0, 0, z, 0, false⟩]) fun e s h' => (e = .normal ∨ e = .ret) ∧ ∃ v, resA s h' il13.res = some v ∧ v = .bool true := by
  refine Wp.split' (n := 0) (p := c13_2) (q := r13_3) (lv' := fun i => (exL i r13_3 || resLv il13.res i)) (by kernel_rfl) (fun i q => q) ?_
  have o1 : 0 ≤ Int.tmod n 12 := Int.tmod_nonneg _ (by omega)
  have o2 : Int.tmod n 12 < 12 := Int.tmod_lt_of_pos _ (by omega)
  have fin : ∀ y : R7, y.a = 3 → (y.b ≠ 0 ∨ y.d ≠ 0 ∨ y.f ≠ 0 ∨ y.g = true ∨ w < y.e) → Wp (Plain.env tblO (gE 0)) (resLv il13.res) r13_3 (denF [.seg A, pB (.slice a 2 c), .seg B, P.lB y] (frS 180 [(10, (sB false)), (11, (sI b)), (12, (.ptr 1 0)), (13, (sI x)), (18, (sI k)), (22, (.ptr 3 0))])) (denH [.seg A, pB (.slice a 2 c), .seg B, P.lB y]) fun e s h' => (e = .normal ∨ e = .ret) ∧ ∃ v, resA s h' il13.res = some v ∧ v = .bool true := fun y h1 h2 => tail hu hw hs (one_no y h1 h2)
  refine Wp.tree (cE_ok 0) (tree13s v4 b x k n (wn v4 0 4) (Int.tmod n 12) (1 + Int.tmod n 12) ⟨3, 0, 0, 0, z, 0, false⟩ a c A B) ⟨rfl, rfl⟩ ⟨wi _ _ _ _ (by decide), fun _ => ?_, fun _ => ⟨fun _ => ?_, fun _ => ⟨fun _ => ?_, fun _ => ⟨fun _ => ⟨?_, add_ok _ _ _ _ (by rw [wrap64 (by omega) (by omega)]), ?_⟩, fun _ => ?_⟩⟩⟩⟩
  · exact fin ⟨3, n, 0, 0, 0, 0, false⟩ rfl (.inl (by show n ≠ 0; omega))
  · exact fin ⟨3, 0, 0, n, 0, 0, false⟩ rfl (.inr (.inl (by show n ≠ 0; omega)))
  · exact fin ⟨3, 0, 0, 0, 0, 0, true⟩ rfl (.inr (.inr (.inr (.inl rfl))))
  · simp [opA, pureA, ev, binA, intBin]
  · exact fin ⟨3, 0, 0, 0, 0, 1 + Int.tmod n 12, false⟩ rfl (.inr (.inr (.inl (by show 1 + Int.tmod n 12 ≠ 0; omega))))
  · exact fin ⟨3, 0, 0, 0, z, 0, false⟩ rfl (.inr (.inr (.inr (.inr hz))))
theorem mid {A B : Heap} {a1 : Option Addr} {c1 : Nat} {b v1 v2 v3 v4 : Int} (hb : 1 ≤ b) (hb2 : b ≤ 1073741824) (hs : RowsW 5 (A ++ some ⟨.fix, [.slice a1 2 c1]⟩ :: B) (.slice a1 2 c1) ((p1 b).map e5)) :
    Wp (Plain.env tblO (gE 0)) (resLv il13.res) r13_1 (denF [.seg A, pB (.slice a1 2 c1), .seg B] (frS 180 [(1, (sI v1)), (2, (sI v2)), (3, (sI v3)), (4, (sI v4)), (10, (sB false)), (11, (sI b)), (12, (.ptr 1 0))])) (denH [.seg A, pB (.slice a1 2 c1), .seg B]) fun e s h' => (e = .normal ∨ e = .ret) ∧ ∃ v, resA s h' il13.res = some v ∧ v = .bool true := by
  refine Wp.split' (n := 9) (p := c13_1) (q := r13_2) (lv' := fun i => (exL i r13_2 || resLv il13.res i)) (by kernel_rfl) (fun i q => q) ?_
  obtain ⟨x, ex⟩ : ∃ x, x = wn v1 0 b := ⟨_, rfl⟩
  have hx0 : 0 ≤ x := by rw [ex]; exact wn_lo (by omega)
  have hxb : x ≤ b := by rw [ex]; exact wn_hi (by omega)
  obtain ⟨u, eu⟩ : ∃ u, u = b - x := ⟨_, rfl⟩
  obtain ⟨k, ek⟩ : ∃ k, k = wn v2 0 u := ⟨_, rfl⟩
  have hk0 : 0 ≤ k := by rw [ek]; exact wn_lo (by omega)
  have hku : k ≤ u := by rw [ek]; exact wn_hi (by omega)
  obtain ⟨w, ew⟩ : ∃ w, w = u - k := ⟨_, rfl⟩
  obtain ⟨m, em⟩ : ∃ m, m = wn v3 0 999 := ⟨_, rfl⟩
  have hm0 : 0 ≤ m := by rw [em]; exact wn_lo (by omega)
  have hm9 : m ≤ 999 := by rw [em]; exact wn_hi (by omega)
  have su : u = wr (b - x) := by rw [wr_id (by omega) (by omega)]; exact eu
  have sw : w = wr (u - k) := by rw [wr_id (by omega) (by omega)]; exact ew
  -- the tape of 7
  have I1 : ∀ f, denL f [.seg B] = B := fun f => by simp [denL, It.den]
  obtain ⟨X1, g1⟩ := app (y := ⟨7, 0, 0, 0, 1, 0, false⟩) I1 hs (by simp [p1])
  rw [one_7] at g1
  -- the default
  obtain ⟨B2, eB2⟩ : ∃ B2, B2 = B ++ (some ⟨.fix, e7 ⟨7, 0, 0, 0, 1, 0, false⟩⟩ :: (X1 ++ [some ⟨.fix, e4 a0⟩])) := ⟨_, rfl⟩
  have I2 : ∀ f, denL f [.seg B, P.lB ⟨7, 0, 0, 0, 1, 0, false⟩, .seg X1, P.z4] = B2 := fun f => by rw [eB2]; simp [denL, It.den, den0, e7, e4, a0]
  have hs2 : RowsW 5 (A ++ some ⟨.fix, [.slice a1 2 c1]⟩ :: B2) (.slice a1 2 c1) ((p1 b).map e5) := by
    have := hs.app (some ⟨.fix, e7 ⟨7, 0, 0, 0, 1, 0, false⟩⟩ :: (X1 ++ [some ⟨.fix, e4 a0⟩]))
    rw [eB2]; simpa using this
  obtain ⟨X2, g2⟩ := app (y := ⟨3, x, 0, 0, 0, 0, true⟩) I2 hs2 (by simp [p1])
  rw [one_3 hb2 hx0 hxb eu] at g2
  obtain ⟨a2, c2, _, hr2, g2⟩ := g2
  have hr2 : RowsW 5 (A ++ some ⟨.fix, [.slice a2 2 c2]⟩ :: (B2 ++ (some ⟨.fix, e7 ⟨3, x, 0, 0, 0, 0, true⟩⟩ :: X2))) (.slice a2 2 c2) ((p2 u).map e5) := hr2
  obtain ⟨B3, eB3⟩ : ∃ B3, B3 = B2 ++ (some ⟨.fix, e7 ⟨3, x, 0, 0, 0, 0, true⟩⟩ :: X2) ++ [some ⟨.fix, e4 ⟨x, 0, u, 0⟩⟩] := ⟨_, rfl⟩
  have I3 : ∀ f, denL f [.seg B, P.lB ⟨7, 0, 0, 0, 1, 0, false⟩, .seg X1, P.z4, P.lB ⟨3, x, 0, 0, 0, 0, true⟩, .seg X2, P.aB ⟨x, 0, u, 0⟩] = B3 := fun f => by rw [eB3, eB2]; simp [denL, It.den, den0, e7, e4, a0]
  have hs3 : RowsW 5 (A ++ some ⟨.fix, [.slice a2 2 c2]⟩ :: B3) (.slice a2 2 c2) ((p2 u).map e5) := by
    have := hr2.app [some ⟨.fix, e4 ⟨x, 0, u, 0⟩⟩]
    rw [eB3]; simpa using this
  obtain ⟨X3, g3⟩ := app (y := ⟨3, 0, 0, 0, k, 0, false⟩) I3 hs3 (by simp [p2])
  rw [one_k (by omega) hk0 hku ew] at g3
  obtain ⟨a3, c3, _, hr3, g3⟩ := g3
  have hr3 : RowsW 5 (A ++ some ⟨.fix, [.slice a3 2 c3]⟩ :: (B3 ++ (some ⟨.fix, e7 ⟨3, 0, 0, 0, k, 0, false⟩⟩ :: X3))) (.slice a3 2 c3) ((p2 w).map e5) := hr3
  obtain ⟨B4, eB4⟩ : ∃ B4, B4 = B3 ++ (some ⟨.fix, e7 ⟨3, 0, 0, 0, k, 0, false⟩⟩ :: X3) ++ [some ⟨.fix, e4 ⟨0, 0, 0, k⟩⟩] := ⟨_, rfl⟩
  have I4 : ∀ f, denL f [.seg B, P.lB ⟨7, 0, 0, 0, 1, 0, false⟩, .seg X1, P.z4, P.lB ⟨3, x, 0, 0, 0, 0, true⟩, .seg X2, P.aB ⟨x, 0, u, 0⟩, P.lB ⟨3, 0, 0, 0, k, 0, false⟩, .seg X3, P.aB ⟨0, 0, 0, k⟩] = B4 := fun f => by rw [eB4, eB3, eB2]; simp [denL, It.den, den0, e7, e4, a0]
  have hs4 : RowsW 5 (A ++ some ⟨.fix, [.slice a3 2 c3]⟩ :: B4) (.slice a3 2 c3) ((p2 w).map e5) := by
    have := hr3.app [some ⟨.fix, e4 ⟨0, 0, 0, k⟩⟩]
    rw [eB4]; simpa using this
  refine Wp.tree (cE_ok 0) (tree13m v1 v2 v3 v4 b x u k w m (1 + m) (w + (1 + m)) a1 a2 a3 c1 c2 c3 A B X1 X2 X3) ⟨rfl, rfl⟩ ⟨by rw [ex]; exact wi _ _ _ _ (by simp [preWithin]; omega), g1, g2, sub_ok _ _ _ _ su, ne_self _ _, sum48 I3 hs3 (by simp [p2]) (lost_2 (by omega) (by omega)), sub_ok _ _ _ _ su, ne_self _ _, sum47 I3 hs3 (by simp [p2]) bal_2, sub_ok _ _ _ _ su, by rw [ek]; exact wi _ _ _ _ (by simp [preWithin]; omega), g3, ne_self _ _, sum48 I4 hs4 (by simp [p2]) (lost_2 (by omega) (by omega)), sub_ok _ _ _ _ su, sub_ok _ _ _ _ sw, ne_self _ _, by rw [em]; exact wi _ _ _ _ (by decide), add_ok _ _ _ _ (by rw [wrap64 (by omega) (by omega)]), sub_ok _ _ _ _ su, sub_ok _ _ _ _ sw, add_ok _ _ _ _ (by rw [wrap64 (by omega) (by omega)]), ?_⟩
  have eh : ∀ y : It, denH [.seg A, pB (.slice a3 2 c3), .seg B, P.lB ⟨7, 0, 0, 0, 1, 0, false⟩, .seg X1, P.z4, P.lB ⟨3, x, 0, 0, 0, 0, true⟩, .seg X2, P.aB ⟨x, 0, u, 0⟩, P.lB ⟨3, 0, 0, 0, k, 0, false⟩, .seg X3, P.aB ⟨0, 0, 0, k⟩, P.lB ⟨3, 0, 0, 0, w + (1 + m), 0, false⟩] = denH [.seg A, pB (.slice a3 2 c3), .seg B4, P.lB ⟨3, 0, 0, 0, w + (1 + m), 0, false⟩] := fun _ => by
    rw [eB4, eB3, eB2]; simp [denH, denL, It.den, den0, e7, e4, a0]
  have ef : denF [.seg A, pB (.slice a3 2 c3), .seg B, P.lB ⟨7, 0, 0, 0, 1, 0, false⟩, .seg X1, P.z4, P.lB ⟨3, x, 0, 0, 0, 0, true⟩, .seg X2, P.aB ⟨x, 0, u, 0⟩, P.lB ⟨3, 0, 0, 0, k, 0, false⟩, .seg X3, P.aB ⟨0, 0, 0, k⟩, P.lB ⟨3, 0, 0, 0, w + (1 + m), 0, false⟩] (frS 180 [(4, (sI v4)), (10, (sB false)), (11, (sI b)), (12, (.ptr 1 0)), (13, (sI x)), (18, (sI k)), (21, (sI (1 + m))), (22, (.ptr 12 0))]) = denF [.seg A, pB (.slice a3 2 c3), .seg B4, P.lB ⟨3, 0, 0, 0, w + (1 + m), 0, false⟩] (frS 180 [(4, (sI v4)), (10, (sB false)), (11, (sI b)), (12, (.ptr 1 0)), (13, (sI x)), (18, (sI k)), (21, (sI (1 + m))), (22, (.ptr 3 0))]) := by
    have hl : B4.length = B.length + X1.length + X2.length + X3.length + 6 := by rw [eB4, eB3, eB2]; simp; omega
    have q1 : denF [.seg A, pB (.slice a3 2 c3), .seg B, P.lB ⟨7, 0, 0, 0, 1, 0, false⟩, .seg X1, P.z4, P.lB ⟨3, x, 0, 0, 0, 0, true⟩, .seg X2, P.aB ⟨x, 0, u, 0⟩, P.lB ⟨3, 0, 0, 0, k, 0, false⟩, .seg X3, P.aB ⟨0, 0, 0, k⟩, P.lB ⟨3, 0, 0, 0, w + (1 + m), 0, false⟩] (frS 180 [(4, (sI v4)), (10, (sB false)), (11, (sI b)), (12, (.ptr 1 0)), (13, (sI x)), (18, (sI k)), (21, (sI (1 + m))), (22, (.ptr 12 0))]) = denF [] (frS 180 [(4, (sI v4)), (10, (sB false)), (11, (sI b)), (12, (.raw (denV (ofs [.seg A, pB (.slice a3 2 c3), .seg B, P.lB ⟨7, 0, 0, 0, 1, 0, false⟩, .seg X1, P.z4, P.lB ⟨3, x, 0, 0, 0, 0, true⟩, .seg X2, P.aB ⟨x, 0, u, 0⟩, P.lB ⟨3, 0, 0, 0, k, 0, false⟩, .seg X3, P.aB ⟨0, 0, 0, k⟩, P.lB ⟨3, 0, 0, 0, w + (1 + m), 0, false⟩]) (.ptr 1 0)))), (13, (sI x)), (18, (sI k)), (21, (sI (1 + m))), (22, (.raw (denV (ofs [.seg A, pB (.slice a3 2 c3), .seg B, P.lB ⟨7, 0, 0, 0, 1, 0, false⟩, .seg X1, P.z4, P.lB ⟨3, x, 0, 0, 0, 0, true⟩, .seg X2, P.aB ⟨x, 0, u, 0⟩, P.lB ⟨3, 0, 0, 0, k, 0, false⟩, .seg X3, P.aB ⟨0, 0, 0, k⟩, P.lB ⟨3, 0, 0, 0, w + (1 + m), 0, false⟩]) (.ptr 12 0))))]) := by show denF _ _ = denF _ _; kernel_rfl
    have q2 : denF [.seg A, pB (.slice a3 2 c3), .seg B4, P.lB ⟨3, 0, 0, 0, w + (1 + m), 0, false⟩] (frS 180 [(4, (sI v4)), (10, (sB false)), (11, (sI b)), (12, (.ptr 1 0)), (13, (sI x)), (18, (sI k)), (21, (sI (1 + m))), (22, (.ptr 3 0))]) = denF [] (frS 180 [(4, (sI v4)), (10, (sB false)), (11, (sI b)), (12, (.raw (denV (ofs [.seg A, pB (.slice a3 2 c3), .seg B4, P.lB ⟨3, 0, 0, 0, w + (1 + m), 0, false⟩]) (.ptr 1 0)))), (13, (sI x)), (18, (sI k)), (21, (sI (1 + m))), (22, (.raw (denV (ofs [.seg A, pB (.slice a3 2 c3), .seg B4, P.lB ⟨3, 0, 0, 0, w + (1 + m), 0, false⟩]) (.ptr 3 0))))]) := by show denF _ _ = denF _ _; kernel_rfl
    have q3 : denV (ofs [.seg A, pB (.slice a3 2 c3), .seg B, P.lB ⟨7, 0, 0, 0, 1, 0, false⟩, .seg X1, P.z4, P.lB ⟨3, x, 0, 0, 0, 0, true⟩, .seg X2, P.aB ⟨x, 0, u, 0⟩, P.lB ⟨3, 0, 0, 0, k, 0, false⟩, .seg X3, P.aB ⟨0, 0, 0, k⟩, P.lB ⟨3, 0, 0, 0, w + (1 + m), 0, false⟩]) (.ptr 1 0) = denV (ofs [.seg A, pB (.slice a3 2 c3), .seg B4, P.lB ⟨3, 0, 0, 0, w + (1 + m), 0, false⟩]) (.ptr 1 0) := by rw [ptrP, ptrP]
    have q4 : denV (ofs [.seg A, pB (.slice a3 2 c3), .seg B, P.lB ⟨7, 0, 0, 0, 1, 0, false⟩, .seg X1, P.z4, P.lB ⟨3, x, 0, 0, 0, 0, true⟩, .seg X2, P.aB ⟨x, 0, u, 0⟩, P.lB ⟨3, 0, 0, 0, k, 0, false⟩, .seg X3, P.aB ⟨0, 0, 0, k⟩, P.lB ⟨3, 0, 0, 0, w + (1 + m), 0, false⟩]) (.ptr 12 0) = denV (ofs [.seg A, pB (.slice a3 2 c3), .seg B4, P.lB ⟨3, 0, 0, 0, w + (1 + m), 0, false⟩]) (.ptr 3 0) := by
      simp [denV, denA, den0, ofs, It.len, off, hl]
      try omega
    rw [q1, q2, q3, q4]
  show Wp _ _ r13_2 (denF [.seg A, pB (.slice a3 2 c3), .seg B, P.lB ⟨7, 0, 0, 0, 1, 0, false⟩, .seg X1, P.z4, P.lB ⟨3, x, 0, 0, 0, 0, true⟩, .seg X2, P.aB ⟨x, 0, u, 0⟩, P.lB ⟨3, 0, 0, 0, k, 0, false⟩, .seg X3, P.aB ⟨0, 0, 0, k⟩, P.lB ⟨3, 0, 0, 0, w + (1 + m), 0, false⟩] (frS 180 [(4, (sI v4)), (10, (sB false)), (11, (sI b)), (12, (.ptr 1 0)), (13, (sI x)), (18, (sI k)), (21, (sI (1 + m))), (22, (.ptr 12 0))])) (denH [.seg A, pB (.slice a3 2 c3), .seg B, P.lB ⟨7, 0, 0, 0, 1, 0, false⟩, .seg X1, P.z4, P.lB ⟨3, x, 0, 0, 0, 0, true⟩, .seg X2, P.aB ⟨x, 0, u, 0⟩, P.lB ⟨3, 0, 0, 0, k, 0, false⟩, .seg X3, P.aB ⟨0, 0, 0, k⟩, P.lB ⟨3, 0, 0, 0, w + (1 + m), 0, false⟩]) _
  rw [eh P.z4, ef]
  exact swi su sw (by omega) (by omega) (by omega) hs4
theorem law (H : Heap) (v0 v1 v2 v3 v4 : Int) : Sim Try.prog 13 [.int .i64 v0, .int .i64 v1, .int .i64 v2, .int .i64 v3, .int .i64 v4] H fun v _ => v = .bool true := by
  obtain ⟨b, eb⟩ : ∃ b, b = wn v0 1 1073741824 := ⟨_, rfl⟩
  have hb1 : 1 ≤ b := by rw [eb]; exact wn_lo (by omega)
  have hb2 : b ≤ 1073741824 := by rw [eb]; exact wn_hi (by omega)
  have hrow : RowsW 2 (denH [.seg H, .blk .fix [(sI 3), (sI b), (sI 7), (sI 50)]]) (denV (ofs [.seg H, .blk .fix [(sI 3), (sI b), (sI 7), (sI 50)]]) (.sl 1 0 2 2)) (([⟨3, b⟩, ⟨7, 50⟩] : List R2).map e2) := by
    have := LsL.rows (w := 2) (H := H) (J := [some ⟨.fix, [.int .i64 3, .int .i64 b, .int .i64 7, .int .i64 50]⟩]) (l := .slice (some ⟨H.length + 0, 0, none⟩) 2 2) (rows := [e2 ⟨3, b⟩, e2 ⟨7, 50⟩]) (by decide) (.inr ⟨0, rfl, by simp, by simp [e2], by simp [e2]⟩) []
    simpa [denH, denL, It.den, den0, denV, denA, ofs, It.len] using this
  obtain ⟨a1, c1, X1, hl, r45⟩ := N.use45 (I := [.seg H, .blk .fix [(sI 3), (sI b), (sI 7), (sI 50)]]) rfl hrow (by simp)
  obtain ⟨A, eA⟩ : ∃ A, A = H ++ [some ⟨.fix, [.int .i64 3, .int .i64 b, .int .i64 7, .int .i64 50]⟩] := ⟨_, rfl⟩
  have hs : RowsW 5 (A ++ some ⟨.fix, [.slice a1 2 c1]⟩ :: X1) (.slice a1 2 c1) ((p1 b).map e5) := by
    have := hl.rows (by decide) []
    rw [eA]
    simpa [denH, denL, It.den, den0, p1, newL] using this
  have w : Wp (Plain.env tblO (gE 0)) (resLv il13.res) il13.body (denF [.seg H] (frS 180 [(0, (sI v0)), (1, (sI v1)), (2, (sI v2)), (3, (sI v3)), (4, (sI v4))])) (denH [.seg H]) fun e s h' => (e = .normal ∨ e = .ret) ∧ ∃ v, resA s h' il13.res = some v ∧ v = .bool true := by
    refine Wp.split' (n := 2) (p := c13_0) (q := r13_1) (lv' := fun i => (exL i r13_1 || resLv il13.res i)) (by kernel_rfl) (fun i q => q) ?_
    refine Wp.tree (cE_ok 0) (tree13h v0 v1 v2 v3 v4 b a1 c1 H X1) ⟨rfl, rfl⟩ ⟨by rw [eb]; exact wi _ _ _ _ (by decide), call (f := 45) (args := [_]) rfl r45, ?_⟩
    have eh : denH [.seg H, .blk .fix [(sI 3), (sI b), (sI 7), (sI 50)], pB (.slice a1 2 c1), .seg X1] = denH [.seg A, pB (.slice a1 2 c1), .seg X1] := by rw [eA]; simp [denH, denL, It.den, den0]
    have ef : denF [.seg H, .blk .fix [(sI 3), (sI b), (sI 7), (sI 50)], pB (.slice a1 2 c1), .seg X1] (frS 180 [(1, (sI v1)), (2, (sI v2)), (3, (sI v3)), (4, (sI v4)), (10, (sB false)), (11, (sI b)), (12, (.ptr 2 0))]) = denF [.seg A, pB (.slice a1 2 c1), .seg X1] (frS 180 [(1, (sI v1)), (2, (sI v2)), (3, (sI v3)), (4, (sI v4)), (10, (sB false)), (11, (sI b)), (12, (.ptr 1 0))]) := by
      have q1 : denF [.seg H, .blk .fix [(sI 3), (sI b), (sI 7), (sI 50)], pB (.slice a1 2 c1), .seg X1] (frS 180 [(1, (sI v1)), (2, (sI v2)), (3, (sI v3)), (4, (sI v4)), (10, (sB false)), (11, (sI b)), (12, (.ptr 2 0))]) = denF [] (frS 180 [(1, (sI v1)), (2, (sI v2)), (3, (sI v3)), (4, (sI v4)), (10, (sB false)), (11, (sI b)), (12, (.raw (denV (ofs [.seg H, .blk .fix [(sI 3), (sI b), (sI 7), (sI 50)], pB (.slice a1 2 c1), .seg X1]) (.ptr 2 0))))]) := by show denF _ _ = denF _ _; kernel_rfl
      have q2 : denF [.seg A, pB (.slice a1 2 c1), .seg X1] (frS 180 [(1, (sI v1)), (2, (sI v2)), (3, (sI v3)), (4, (sI v4)), (10, (sB false)), (11, (sI b)), (12, (.ptr 1 0))]) = denF [] (frS 180 [(1, (sI v1)), (2, (sI v2)), (3, (sI v3)), (4, (sI v4)), (10, (sB false)), (11, (sI b)), (12, (.raw (denV (ofs [.seg A, pB (.slice a1 2 c1), .seg X1]) (.ptr 1 0))))]) := by show denF _ _ = denF _ _; kernel_rfl
      have q3 : denV (ofs [.seg H, .blk .fix [(sI 3), (sI b), (sI 7), (sI 50)], pB (.slice a1 2 c1), .seg X1]) (.ptr 2 0) = denV (ofs [.seg A, pB (.slice a1 2 c1), .seg X1]) (.ptr 1 0) := by rw [eA]; simp [denV, denA, den0, ofs, It.len, off]
      rw [q1, q2, q3]
    show Wp _ _ r13_1 (denF [.seg H, .blk .fix [(sI 3), (sI b), (sI 7), (sI 50)], pB (.slice a1 2 c1), .seg X1] (frS 180 [(1, (sI v1)), (2, (sI v2)), (3, (sI v3)), (4, (sI v4)), (10, (sB false)), (11, (sI b)), (12, (.ptr 2 0))])) (denH [.seg H, .blk .fix [(sI 3), (sI b), (sI 7), (sI 50)], pB (.slice a1 2 c1), .seg X1]) _
    rw [eh, ef]
    exact mid hb1 hb2 hs
  rw [one] at w
  refine wp_sim' mixed (gE_ok 0) (gE_q 0) st13 ?_
  have ef : [.int .i64 v0, .int .i64 v1, .int .i64 v2, .int .i64 v3, .int .i64 v4] ++ List.replicate (il13.ntmps - 5) undef = denF [.seg H] (frS 180 [(0, (sI v0)), (1, (sI v1)), (2, (sI v2)), (3, (sI v3)), (4, (sI v4))]) := by kernel_rfl
  show Wp _ _ _ ([.int .i64 v0, .int .i64 v1, .int .i64 v2, .int .i64 v3, .int .i64 v4] ++ List.replicate (il13.ntmps - 5) undef) _ _
  rw [ef]
  exact w
theorem lawA (H : Heap) (xs : List Value) (h : F2 (fun p a => ArgOk H p.1 p.2 a) [(false, [LT.f (.i .i64)]), (false, [LT.f (.i .i64)]), (false, [LT.f (.i .i64)]), (false, [LT.f (.i .i64)]), (false, [LT.f (.i .i64)])] xs) : Sim Try.prog 13 xs H fun v _ => v = .bool true := by
  cases h with
  | cons h0 h => cases h with
    | cons h1 h => cases h with
      | cons h2 h => cases h with
        | cons h3 h => cases h with
          | cons h4 h => cases h with
            | nil =>
              obtain ⟨v0, rfl, _⟩ := lt_int (arg_one h0)
              obtain ⟨v1, rfl, _⟩ := lt_int (arg_one h1)
              obtain ⟨v2, rfl, _⟩ := lt_int (arg_one h2)
              obtain ⟨v3, rfl, _⟩ := lt_int (arg_one h3)
              obtain ⟨v4, rfl, _⟩ := lt_int (arg_one h4)
              exact law H v0 v1 v2 v3 v4
end O
end PO
end Go.Proofs.Ytgdojnamjkhknaa
