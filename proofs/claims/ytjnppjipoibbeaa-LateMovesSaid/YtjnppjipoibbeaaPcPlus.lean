/-
  The law TapePlus, in plain Lean.
-/
import Derived.Test.YtjnppjipoibbeaaPcLines
import Derived.Test.YtjnppjipoibbeaaClTapeRuns
namespace Go.Proofs.Ytjnppjipoibbeaa.Tape
open Go.Am
set_option linter.all false
set_option maxRecDepth 100000
def sTrue : List Value → Option (Bool × Value) | [] => some (true, .bool true) | _ => none
def tblP : Plain := (11, sTrue) :: tblW
theorem okP : PlainOk Try.prog tblP := .cons (fun args v e => by
  unfold sTrue at e
  split at e
  · cases e
    exact ⟨rfl, rfl, ClTapeRuns.sim.mono fun v h q => q.1⟩
  · cases e) okW
/-! ### Calls at heaps that are not known -/
def Qs (args : List Value) (h : Heap) (v : Value) (h' : Heap) : Prop := ∃ s rows, args = [s] ∧ RowsAt 7 h s (rows.map Ln.enc) ∧ rows.length ≤ 1099511627776 ∧ v = (tot rows).v ∧ h' = h
def Ql (args : List Value) (h : Heap) (v : Value) (h' : Heap) : Prop := ∃ s0 s1 s2 s3 s4 s5 T, args = [.agg ⟨[s0, s1, s2, s3, s4, s5]⟩] ∧ TpAt h s0 s1 s2 s3 s4 s5 T ∧ LinesRes h (lines T) v h'
noncomputable def gL : Env := fun f args h => if f = 39 then rel Qp args h else if f = 33 then rel Ql args h else if f = 30 then rel Qs args h else none
theorem gL_ok : EnvOk Try.prog gL := fun f => by
  intro args h v h' e
  unfold gL at e
  split at e
  · rename_i hf; subst hf
    obtain ⟨s, i, zs, rfl, hi, hs, rfl, rfl⟩ := rel_of e
    exact pick_sim hs hi
  · split at e
    · rename_i hf; subst hf
      exact rel_ok (Q := Ql) (fun args h v h' q => by
        obtain ⟨s0, s1, s2, s3, s4, s5, T, rfl, hT, hr⟩ := q
        refine (lines_sim hT).mono fun v1 h1 r1 => ?_
        rcases r1 with ⟨a1, a2, a3⟩ | ⟨a1, a2, a3⟩ <;> rcases hr with ⟨b1, b2, b3⟩ | ⟨b1, b2, b3⟩
        · exact ⟨by rw [a2, b2], by rw [a3, b3]⟩
        · exact absurd a1 b1
        · exact absurd b1 a1
        · exact ⟨by rw [a2, b2], by rw [a3, b3]⟩) args h v h' e
    · split at e
      · rename_i hf; subst hf
        obtain ⟨s, rows, rfl, hs, hl, rfl, rfl⟩ := rel_of e
        exact sum_sim hs hl
      · cases e
theorem gL_quiet : QuietEnv qt gL := fun f args h v h' hf e => by
  unfold gL at e
  split at e
  · obtain ⟨s, i, zs, _, _, _, _, rfl⟩ := rel_of e
    rfl
  · split at e
    · rename_i q; subst q; exact absurd hf (by decide)
    · split at e
      · obtain ⟨s, rows, _, _, _, _, rfl⟩ := rel_of e
        rfl
      · cases e
theorem enc_inj {a b : List Ln} (h : a.map Ln.enc = b.map Ln.enc) : a = b := by
  have e := congrArg (List.map fun r : List Value => match r with | [.int _ a, .int _ b, .int _ c, .int _ e, .int _ f, .int _ g, .bool d] => Ln.mk a b c e f g d | _ => ⟨0, 0, 0, 0, 0, 0, false⟩) h
  simpa [List.map_map, Function.comp_def, Ln.enc] using e
theorem sum_at {H : Heap} {s : Value} {rows : List Ln} (hs : RowsAt 7 H s (rows.map Ln.enc)) (hl : rows.length ≤ 1099511627776) : opA (Plain.env tblP gL) (.call 30 [(.const s)]) [] H = some ((.agg ⟨[(.int .i64 (tot rows).p), (.int .i64 (tot rows).q), (.int .i64 (tot rows).r), (.int .i64 (tot rows).s), (.int .i64 (tot rows).t)]⟩), H) := by
  show rel Qs [s] H = _
  refine rel_some ⟨s, rows, rfl, hs, hl, rfl, rfl⟩ fun v1 h1 ⟨s', rows', e, hs', _, q1, q2⟩ => ?_
  cases e
  rw [enc_inj (hs.uniq hs')]
  exact ⟨q1, q2⟩
theorem LinesRes.fun_ {h : Heap} {ls : List Ln} {v v' : Value} {h1 h2 : Heap} (a : LinesRes h ls v h1) (b : LinesRes h ls v' h2) : v = v' ∧ h1 = h2 := by
  rcases a with ⟨a1, a2, a3⟩ | ⟨a1, a2, a3⟩ <;> rcases b with ⟨b1, b2, b3⟩ | ⟨b1, b2, b3⟩
  · exact ⟨by rw [a2, b2], by rw [a3, b3]⟩
  · exact absurd a1 b1
  · exact absurd b1 a1
  · exact ⟨by rw [a2, b2], by rw [a3, b3]⟩
theorem lines_at {H : Heap} {s0 s1 s2 s3 s4 s5 : Value} {T : Tp} (hT : TpAt H s0 s1 s2 s3 s4 s5 T) : ∃ v H', opA (Plain.env tblP gL) (.call 33 [(.const (.agg ⟨[s0, s1, s2, s3, s4, s5]⟩))]) [] H = some (v, H') ∧ LinesRes H (lines T) v H' := by
  obtain ⟨v, H', hr⟩ : ∃ v H', LinesRes H (lines T) v H' := by
    by_cases hz : lines T = []
    · exact ⟨_, _, .inl ⟨hz, rfl, rfl⟩⟩
    · exact ⟨_, _, .inr ⟨hz, rfl, rfl⟩⟩
  refine ⟨v, H', ?_, hr⟩
  show rel Ql [.agg ⟨[s0, s1, s2, s3, s4, s5]⟩] H = _
  refine rel_some ⟨s0, s1, s2, s3, s4, s5, T, rfl, hT, hr⟩ fun v1 h1 ⟨u0, u1, u2, u3, u4, u5, T', e, hT', hr'⟩ => ?_
  simp only [List.cons.injEq, Value.agg.injEq, Array.mk.injEq, and_true] at e
  obtain ⟨rfl, rfl, rfl, rfl, rfl, rfl⟩ := e
  have : T' = T := by
    have e0 := nums_inj (hT'.a0.uniq hT.a0)
    have e1 := nums_inj (hT'.a1.uniq hT.a1)
    have e2 := nums_inj (hT'.a2.uniq hT.a2)
    have e3 := nums_inj (hT'.a3.uniq hT.a3)
    have e4 := nums_inj (hT'.a4.uniq hT.a4)
    have e5 := nums_inj (hT'.a5.uniq hT.a5)
    cases T; cases T'; simp_all
  subst this
  exact hr'.fun_ hr
theorem LinesRes.sub {h : Heap} {ls : List Ln} {v : Value} {h' : Heap} (a : LinesRes h ls v h') : ∀ B blk, rd h B = some blk → rd h' B = some blk := by
  rcases a with ⟨_, _, rfl⟩ | ⟨_, _, rfl⟩
  · exact fun _ _ e => e
  · exact fun _ _ e => rd_old e
theorem flat_at {w : Nat} : ∀ (rows : List (List Value)), (∀ r ∈ rows, r.length = w) → ∀ (i : Nat) (r : List Value), rows[i]? = some r → i * w + w ≤ rows.flatten.length ∧ (rows.flatten.drop (i * w)).take w = r
  | [], _, i, r, e => by simp at e
  | a :: l, h, 0, r, e => by
    simp at e; subst e
    have := h a (by simp)
    rw [List.flatten_cons]
    refine ⟨by simp; omega, ?_⟩
    rw [Nat.zero_mul, List.drop_zero, ← this, List.take_left']
    rfl
  | a :: l, h, i + 1, r, e => by
    have ha := h a (by simp)
    obtain ⟨h1, h2⟩ := flat_at l (fun r hr => h r (by simp [hr])) i r (by simpa using e)
    rw [List.flatten_cons]
    have hm : (i + 1) * w = a.length + i * w := by rw [Nat.add_mul, Nat.one_mul, ha]; omega
    refine ⟨by rw [hm, List.length_append]; omega, ?_⟩
    rw [hm, List.drop_append, List.drop_eq_nil_of_le (by omega), List.nil_append, show a.length + i * w - a.length = i * w by omega]
    exact h2
theorem LinesRes.rows {h : Heap} {ls : List Ln} {v : Value} {h' : Heap} (a : LinesRes h ls v h') : RowsAt 7 h' v (ls.map Ln.enc) := by
  rcases a with ⟨rfl, rfl, rfl⟩ | ⟨_, rfl, rfl⟩
  · exact .inl ⟨rfl, rfl⟩
  · refine .inr ⟨h.length, 0, ls.length, ⟨.grown 7, (ls.map Ln.enc).flatten⟩, by rw [List.length_map], rd_last rfl, fun i r e => ?_⟩
    rw [Nat.zero_add]
    exact flat_at _ (fun r hr => by obtain ⟨x, _, rfl⟩ := List.mem_map.1 hr; rfl) i r e
theorem rows_eq0 {w : Nat} {h : Heap} {v : Value} {rows : List (List Value)} (a : RowsAt w h v rows) : eq0 v v = true := by
  rcases a with ⟨rfl, rfl⟩ | ⟨B, o, c, blk, rfl, _, _⟩ <;> simp [Am.eq0]
/-! ### Sums that wrap -/
theorem wrap_def (n : Int) : IntKind.wrap .i64 n = if n % 18446744073709551616 ≥ 9223372036854775808 then n % 18446744073709551616 - 18446744073709551616 else n % 18446744073709551616 := by
  simp only [IntKind.wrap, IntKind.bits, IntKind.signed]
  by_cases h : n % 18446744073709551616 ≥ 9223372036854775808
  · simp [h]
  · simp [h]
theorem wrap_l (x y : Int) : IntKind.wrap .i64 (IntKind.wrap .i64 x + y) = IntKind.wrap .i64 (x + y) := by
  rw [wrap_def (IntKind.wrap .i64 x + y), wrap_def (x + y), wrap_def x]
  split <;> split <;> split <;> omega
theorem wrap_r (x y : Int) : IntKind.wrap .i64 (x + IntKind.wrap .i64 y) = IntKind.wrap .i64 (x + y) := by
  rw [Int.add_comm, wrap_l, Int.add_comm]
theorem pl_comm (a b : Int) : pl a b = pl b a := by rw [pl, pl, Int.add_comm]
theorem pl_assoc (a b c : Int) : pl (pl a b) c = pl a (pl b c) := by
  simp only [pl, wrap_l, wrap_r, Int.add_assoc]
theorem pl_zero (a b : Int) : pl (pl a b) 0 = pl a b := by
  rw [pl, pl, wrap_l, Int.add_zero]
structure Fit (x : Tot) : Prop where
  p : pl x.p 0 = x.p
  q : pl x.q 0 = x.q
  r : pl x.r 0 = x.r
  s : pl x.s 0 = x.s
  t : pl x.t 0 = x.t
theorem fit_plus (x y : Tot) : Fit (plus x y) := ⟨pl_zero _ _, pl_zero _ _, pl_zero _ _, pl_zero _ _, pl_zero _ _⟩
theorem fit_fold : ∀ (l : List Ln) (x : Tot), Fit x → Fit (l.foldl (fun t x => plus t (one x)) x)
  | [], _, h => h
  | a :: l, x, h => fit_fold l _ (fit_plus _ _)
theorem fit_tot (l : List Ln) : Fit (tot l) := fit_fold l zero ⟨by decide, by decide, by decide, by decide, by decide⟩
theorem cash_plus (x0 x1 x2 x3 y0 y1 y2 y3 : Int) : pl (pl (pl (pl x0 y0) (pl x1 y1)) (pl x2 y2)) (pl x3 y3) = IntKind.wrap .i64 (pl (pl (pl x0 x1) x2) x3 + pl (pl (pl y0 y1) y2) y3) := by
  simp only [pl, wrap_l, wrap_r]
  congr 1
  omega
/-- cascade/cascadelaw8.TapePlus -/
def il14 : FnIL := ⟨61, [.tmp 6],
  .seq (.reg [
     ⟨(some 3), none, .box (.tmp 0)⟩,
     ⟨(some 4), none, .box (.tmp 1)⟩,
     ⟨(some 5), none, .box (.tmp 2)⟩,
     ⟨(some 6), none, .mov (.const (.bool false))⟩])
  (.seq (.dreg [
     ⟨(some 10), none, .load (.tmp 3) (some 6)⟩,
     ⟨(some 11), none, .call 33 [(.tmp 10)]⟩,
     ⟨(some 12), none, .call 30 [(.tmp 11)]⟩,
     ⟨(some 13), none, .load (.tmp 4) (some 6)⟩,
     ⟨(some 14), none, .call 33 [(.tmp 13)]⟩,
     ⟨(some 15), none, .call 30 [(.tmp 14)]⟩,
     ⟨(some 16), none, .load (.tmp 5) (some 6)⟩,
     ⟨(some 17), none, .call 33 [(.tmp 16)]⟩,
     ⟨(some 18), none, .call 30 [(.tmp 17)]⟩,
     ⟨(some 7), none, .alloc [(.int .i64 0), (.int .i64 0), (.int .i64 0), (.int .i64 0), (.int .i64 0)]⟩,
     ⟨(some 8), none, .alloc [(.int .i64 0), (.int .i64 0), (.int .i64 0), (.int .i64 0), (.int .i64 0)]⟩,
     ⟨(some 9), none, .alloc [(.int .i64 0), (.int .i64 0), (.int .i64 0), (.int .i64 0), (.int .i64 0)]⟩,
     ⟨none, none, .store (.tmp 7) (.tmp 12) 5⟩,
     ⟨none, none, .store (.tmp 8) (.tmp 15) 5⟩,
     ⟨none, none, .store (.tmp 9) (.tmp 18) 5⟩] [(2, 9), (2, 10), (2, 11), (3, 1), (5, 9), (5, 10), (5, 11), (6, 1), (6, 4), (8, 9), (8, 10), (8, 11)])
  (.seq (.dreg [
     ⟨(some 19), none, .load (.tmp 7) (some 5)⟩,
     ⟨(some 20), none, .load (.tmp 8) (some 5)⟩,
     ⟨(some 21), none, .call 34 [(.tmp 19), (.tmp 20)]⟩,
     ⟨(some 22), none, .load (.tmp 8) (some 5)⟩,
     ⟨(some 23), none, .load (.tmp 7) (some 5)⟩,
     ⟨(some 24), none, .call 34 [(.tmp 22), (.tmp 23)]⟩,
     ⟨(some 25), none, .eqv false (.cells [false, false, false, false, false]) (.tmp 21) (.tmp 24)⟩,
     ⟨(some 26), none, .mov (.tmp 25)⟩,
     ⟨(some 27), (some (26, true)), .load (.tmp 7) (some 5)⟩,
     ⟨(some 28), (some (26, true)), .load (.tmp 8) (some 5)⟩,
     ⟨(some 29), (some (26, true)), .call 34 [(.tmp 27), (.tmp 28)]⟩,
     ⟨(some 30), (some (26, true)), .load (.tmp 9) (some 5)⟩,
     ⟨(some 31), (some (26, true)), .call 34 [(.tmp 29), (.tmp 30)]⟩,
     ⟨(some 32), (some (26, true)), .load (.tmp 7) (some 5)⟩,
     ⟨(some 33), (some (26, true)), .load (.tmp 8) (some 5)⟩,
     ⟨(some 34), (some (26, true)), .load (.tmp 9) (some 5)⟩,
     ⟨(some 35), (some (26, true)), .call 34 [(.tmp 33), (.tmp 34)]⟩,
     ⟨(some 36), (some (26, true)), .call 34 [(.tmp 32), (.tmp 35)]⟩,
     ⟨(some 37), (some (26, true)), .eqv false (.cells [false, false, false, false, false]) (.tmp 31) (.tmp 36)⟩,
     ⟨(some 38), none, .pick (.tmp 26) (.tmp 37) (.const (.bool false))⟩,
     ⟨(some 39), none, .mov (.tmp 38)⟩,
     ⟨(some 40), (some (39, true)), .load (.tmp 7) (some 5)⟩,
     ⟨(some 41), (some (39, true)), .load (.tmp 8) (some 5)⟩,
     ⟨(some 42), (some (39, true)), .call 34 [(.tmp 40), (.tmp 41)]⟩,
     ⟨(some 43), (some (39, true)), .call 32 [(.tmp 42)]⟩,
     ⟨(some 44), (some (39, true)), .load (.tmp 7) (some 5)⟩,
     ⟨(some 45), (some (39, true)), .call 32 [(.tmp 44)]⟩,
     ⟨(some 46), (some (39, true)), .load (.tmp 8) (some 5)⟩,
     ⟨(some 47), (some (39, true)), .call 32 [(.tmp 46)]⟩,
     ⟨(some 48), (some (39, true)), .bin .add (.tmp 45) (.tmp 47)⟩,
     ⟨(some 49), (some (39, true)), .bin .eql (.tmp 43) (.tmp 48)⟩,
     ⟨(some 50), none, .pick (.tmp 39) (.tmp 49) (.const (.bool false))⟩,
     ⟨(some 51), none, .mov (.tmp 50)⟩,
     ⟨(some 52), (some (51, true)), .load (.tmp 7) (some 5)⟩,
     ⟨(some 53), (some (51, true)), .build [(.int .i64 0), (.int .i64 0), (.int .i64 0), (.int .i64 0), (.int .i64 0)] []⟩,
     ⟨(some 54), (some (51, true)), .call 34 [(.tmp 52), (.tmp 53)]⟩,
     ⟨(some 55), (some (51, true)), .load (.tmp 7) (some 5)⟩,
     ⟨(some 56), (some (51, true)), .eqv false (.cells [false, false, false, false, false]) (.tmp 54) (.tmp 55)⟩,
     ⟨(some 57), none, .pick (.tmp 51) (.tmp 56) (.const (.bool false))⟩,
     ⟨(some 58), none, .mov (.tmp 57)⟩,
     ⟨(some 59), (some (58, true)), .call 11 []⟩,
     ⟨(some 60), none, .pick (.tmp 58) (.tmp 59) (.const (.bool false))⟩,
     ⟨(some 6), none, .mov (.tmp 60)⟩] [])
  (.ret)))⟩
theorem st14 : stF Try.prog qt 14 = some il14 := by kernel_rfl
def il14a : IL := .seq (.reg [
     ⟨(some 3), none, .box (.tmp 0)⟩,
     ⟨(some 4), none, .box (.tmp 1)⟩,
     ⟨(some 5), none, .box (.tmp 2)⟩,
     ⟨(some 6), none, .mov (.const (.bool false))⟩])
  (.seq (.dreg [
     ⟨(some 10), none, .load (.tmp 3) (some 6)⟩,
     ⟨(some 11), none, .call 33 [(.tmp 10)]⟩,
     ⟨(some 12), none, .call 30 [(.tmp 11)]⟩,
     ⟨(some 13), none, .load (.tmp 4) (some 6)⟩,
     ⟨(some 14), none, .call 33 [(.tmp 13)]⟩,
     ⟨(some 15), none, .call 30 [(.tmp 14)]⟩,
     ⟨(some 16), none, .load (.tmp 5) (some 6)⟩,
     ⟨(some 17), none, .call 33 [(.tmp 16)]⟩,
     ⟨(some 18), none, .call 30 [(.tmp 17)]⟩,
     ⟨(some 7), none, .alloc [(.int .i64 0), (.int .i64 0), (.int .i64 0), (.int .i64 0), (.int .i64 0)]⟩,
     ⟨(some 8), none, .alloc [(.int .i64 0), (.int .i64 0), (.int .i64 0), (.int .i64 0), (.int .i64 0)]⟩,
     ⟨(some 9), none, .alloc [(.int .i64 0), (.int .i64 0), (.int .i64 0), (.int .i64 0), (.int .i64 0)]⟩,
     ⟨none, none, .store (.tmp 7) (.tmp 12) 5⟩,
     ⟨none, none, .store (.tmp 8) (.tmp 15) 5⟩,
     ⟨none, none, .store (.tmp 9) (.tmp 18) 5⟩] [(2, 9), (2, 10), (2, 11), (3, 1), (5, 9), (5, 10), (5, 11), (6, 1), (6, 4), (8, 9), (8, 10), (8, 11)])
  (.seq (.dreg [
     ⟨(some 19), none, .load (.tmp 7) (some 5)⟩,
     ⟨(some 20), none, .load (.tmp 8) (some 5)⟩,
     ⟨(some 21), none, .call 34 [(.tmp 19), (.tmp 20)]⟩,
     ⟨(some 22), none, .load (.tmp 8) (some 5)⟩,
     ⟨(some 23), none, .load (.tmp 7) (some 5)⟩,
     ⟨(some 24), none, .call 34 [(.tmp 22), (.tmp 23)]⟩,
     ⟨(some 25), none, .eqv false (.cells [false, false, false, false, false]) (.tmp 21) (.tmp 24)⟩,
     ⟨(some 26), none, .mov (.tmp 25)⟩,
     ⟨(some 27), (some (26, true)), .load (.tmp 7) (some 5)⟩,
     ⟨(some 28), (some (26, true)), .load (.tmp 8) (some 5)⟩,
     ⟨(some 29), (some (26, true)), .call 34 [(.tmp 27), (.tmp 28)]⟩,
     ⟨(some 30), (some (26, true)), .load (.tmp 9) (some 5)⟩,
     ⟨(some 31), (some (26, true)), .call 34 [(.tmp 29), (.tmp 30)]⟩,
     ⟨(some 32), (some (26, true)), .load (.tmp 7) (some 5)⟩,
     ⟨(some 33), (some (26, true)), .load (.tmp 8) (some 5)⟩,
     ⟨(some 34), (some (26, true)), .load (.tmp 9) (some 5)⟩,
     ⟨(some 35), (some (26, true)), .call 34 [(.tmp 33), (.tmp 34)]⟩,
     ⟨(some 36), (some (26, true)), .call 34 [(.tmp 32), (.tmp 35)]⟩,
     ⟨(some 37), (some (26, true)), .eqv false (.cells [false, false, false, false, false]) (.tmp 31) (.tmp 36)⟩,
     ⟨(some 38), none, .pick (.tmp 26) (.tmp 37) (.const (.bool false))⟩,
     ⟨(some 39), none, .mov (.tmp 38)⟩,
     ⟨(some 40), (some (39, true)), .load (.tmp 7) (some 5)⟩,
     ⟨(some 41), (some (39, true)), .load (.tmp 8) (some 5)⟩,
     ⟨(some 42), (some (39, true)), .call 34 [(.tmp 40), (.tmp 41)]⟩,
     ⟨(some 43), (some (39, true)), .call 32 [(.tmp 42)]⟩,
     ⟨(some 44), (some (39, true)), .load (.tmp 7) (some 5)⟩,
     ⟨(some 45), (some (39, true)), .call 32 [(.tmp 44)]⟩,
     ⟨(some 46), (some (39, true)), .load (.tmp 8) (some 5)⟩,
     ⟨(some 47), (some (39, true)), .call 32 [(.tmp 46)]⟩,
     ⟨(some 48), (some (39, true)), .bin .add (.tmp 45) (.tmp 47)⟩,
     ⟨(some 49), (some (39, true)), .bin .eql (.tmp 43) (.tmp 48)⟩,
     ⟨(some 50), none, .pick (.tmp 39) (.tmp 49) (.const (.bool false))⟩,
     ⟨(some 51), none, .mov (.tmp 50)⟩,
     ⟨(some 52), (some (51, true)), .load (.tmp 7) (some 5)⟩,
     ⟨(some 53), (some (51, true)), .build [(.int .i64 0), (.int .i64 0), (.int .i64 0), (.int .i64 0), (.int .i64 0)] []⟩,
     ⟨(some 54), (some (51, true)), .call 34 [(.tmp 52), (.tmp 53)]⟩,
     ⟨(some 55), (some (51, true)), .load (.tmp 7) (some 5)⟩,
     ⟨(some 56), (some (51, true)), .eqv false (.cells [false, false, false, false, false]) (.tmp 54) (.tmp 55)⟩,
     ⟨(some 57), none, .pick (.tmp 51) (.tmp 56) (.const (.bool false))⟩,
     ⟨(some 58), none, .mov (.tmp 57)⟩,
     ⟨(some 59), (some (58, true)), .call 11 []⟩,
     ⟨(some 60), none, .pick (.tmp 58) (.tmp 59) (.const (.bool false))⟩,
     ⟨(some 6), none, .mov (.tmp 60)⟩] [])
  (.ret)))
def hn14a (s0 s1 s2 s3 s4 s5 u0 u1 u2 u3 u4 u5 w0 w1 w2 w3 w4 w5 la lb lc : Value) (x0 x1 x2 x3 x4 : Int) (y0 y1 y2 y3 y4 : Int) (z0 z1 z2 z3 z4 : Int) (H Ha Hb Hc : Heap) : Hj := (.crs [some ((.agg ⟨[s0, s1, s2, s3, s4, s5]⟩), (((H ++ [some (Blk.mk .fix [s0, s1, s2, s3, s4, s5])]) ++ [some (Blk.mk .fix [u0, u1, u2, u3, u4, u5])]) ++ [some (Blk.mk .fix [w0, w1, w2, w3, w4, w5])])), some (la, Ha), some ((.agg ⟨[(.int .i64 x0), (.int .i64 x1), (.int .i64 x2), (.int .i64 x3), (.int .i64 x4)]⟩), Ha), some ((.agg ⟨[u0, u1, u2, u3, u4, u5]⟩), Ha), some (lb, Hb), some ((.agg ⟨[(.int .i64 y0), (.int .i64 y1), (.int .i64 y2), (.int .i64 y3), (.int .i64 y4)]⟩), Hb), some ((.agg ⟨[w0, w1, w2, w3, w4, w5]⟩), Hb), some (lc, Hc), some ((.agg ⟨[(.int .i64 z0), (.int .i64 z1), (.int .i64 z2), (.int .i64 z3), (.int .i64 z4)]⟩), Hc), none, none, none, some ((.tuple ⟨[]⟩), (((Hc ++ [some (Blk.mk .fix [(.int .i64 x0), (.int .i64 x1), (.int .i64 x2), (.int .i64 x3), (.int .i64 x4)])]) ++ [some (Blk.mk .fix [(.int .i64 0), (.int .i64 0), (.int .i64 0), (.int .i64 0), (.int .i64 0)])]) ++ [some (Blk.mk .fix [(.int .i64 0), (.int .i64 0), (.int .i64 0), (.int .i64 0), (.int .i64 0)])])), some ((.tuple ⟨[]⟩), (((Hc ++ [some (Blk.mk .fix [(.int .i64 x0), (.int .i64 x1), (.int .i64 x2), (.int .i64 x3), (.int .i64 x4)])]) ++ [some (Blk.mk .fix [(.int .i64 y0), (.int .i64 y1), (.int .i64 y2), (.int .i64 y3), (.int .i64 y4)])]) ++ [some (Blk.mk .fix [(.int .i64 0), (.int .i64 0), (.int .i64 0), (.int .i64 0), (.int .i64 0)])])), some ((.tuple ⟨[]⟩), (((Hc ++ [some (Blk.mk .fix [(.int .i64 x0), (.int .i64 x1), (.int .i64 x2), (.int .i64 x3), (.int .i64 x4)])]) ++ [some (Blk.mk .fix [(.int .i64 y0), (.int .i64 y1), (.int .i64 y2), (.int .i64 y3), (.int .i64 y4)])]) ++ [some (Blk.mk .fix [(.int .i64 z0), (.int .i64 z1), (.int .i64 z2), (.int .i64 z3), (.int .i64 z4)])]))] (.use 19 (.agg ⟨[(.int .i64 x0), (.int .i64 x1), (.int .i64 x2), (.int .i64 x3), (.int .i64 x4)]⟩) (((Hc ++ [some (Blk.mk .fix [(.int .i64 x0), (.int .i64 x1), (.int .i64 x2), (.int .i64 x3), (.int .i64 x4)])]) ++ [some (Blk.mk .fix [(.int .i64 y0), (.int .i64 y1), (.int .i64 y2), (.int .i64 y3), (.int .i64 y4)])]) ++ [some (Blk.mk .fix [(.int .i64 z0), (.int .i64 z1), (.int .i64 z2), (.int .i64 z3), (.int .i64 z4)])]) (.use 20 (.agg ⟨[(.int .i64 y0), (.int .i64 y1), (.int .i64 y2), (.int .i64 y3), (.int .i64 y4)]⟩) (((Hc ++ [some (Blk.mk .fix [(.int .i64 x0), (.int .i64 x1), (.int .i64 x2), (.int .i64 x3), (.int .i64 x4)])]) ++ [some (Blk.mk .fix [(.int .i64 y0), (.int .i64 y1), (.int .i64 y2), (.int .i64 y3), (.int .i64 y4)])]) ++ [some (Blk.mk .fix [(.int .i64 z0), (.int .i64 z1), (.int .i64 z2), (.int .i64 z3), (.int .i64 z4)])]) (.use 22 (.agg ⟨[(.int .i64 y0), (.int .i64 y1), (.int .i64 y2), (.int .i64 y3), (.int .i64 y4)]⟩) (((Hc ++ [some (Blk.mk .fix [(.int .i64 x0), (.int .i64 x1), (.int .i64 x2), (.int .i64 x3), (.int .i64 x4)])]) ++ [some (Blk.mk .fix [(.int .i64 y0), (.int .i64 y1), (.int .i64 y2), (.int .i64 y3), (.int .i64 y4)])]) ++ [some (Blk.mk .fix [(.int .i64 z0), (.int .i64 z1), (.int .i64 z2), (.int .i64 z3), (.int .i64 z4)])]) (.use 23 (.agg ⟨[(.int .i64 x0), (.int .i64 x1), (.int .i64 x2), (.int .i64 x3), (.int .i64 x4)]⟩) (((Hc ++ [some (Blk.mk .fix [(.int .i64 x0), (.int .i64 x1), (.int .i64 x2), (.int .i64 x3), (.int .i64 x4)])]) ++ [some (Blk.mk .fix [(.int .i64 y0), (.int .i64 y1), (.int .i64 y2), (.int .i64 y3), (.int .i64 y4)])]) ++ [some (Blk.mk .fix [(.int .i64 z0), (.int .i64 z1), (.int .i64 z2), (.int .i64 z3), (.int .i64 z4)])]) (.yes (.use 27 (.agg ⟨[(.int .i64 x0), (.int .i64 x1), (.int .i64 x2), (.int .i64 x3), (.int .i64 x4)]⟩) (((Hc ++ [some (Blk.mk .fix [(.int .i64 x0), (.int .i64 x1), (.int .i64 x2), (.int .i64 x3), (.int .i64 x4)])]) ++ [some (Blk.mk .fix [(.int .i64 y0), (.int .i64 y1), (.int .i64 y2), (.int .i64 y3), (.int .i64 y4)])]) ++ [some (Blk.mk .fix [(.int .i64 z0), (.int .i64 z1), (.int .i64 z2), (.int .i64 z3), (.int .i64 z4)])]) (.con (.use 28 (.agg ⟨[(.int .i64 y0), (.int .i64 y1), (.int .i64 y2), (.int .i64 y3), (.int .i64 y4)]⟩) (((Hc ++ [some (Blk.mk .fix [(.int .i64 x0), (.int .i64 x1), (.int .i64 x2), (.int .i64 x3), (.int .i64 x4)])]) ++ [some (Blk.mk .fix [(.int .i64 y0), (.int .i64 y1), (.int .i64 y2), (.int .i64 y3), (.int .i64 y4)])]) ++ [some (Blk.mk .fix [(.int .i64 z0), (.int .i64 z1), (.int .i64 z2), (.int .i64 z3), (.int .i64 z4)])]) (.con (.con (.use 30 (.agg ⟨[(.int .i64 z0), (.int .i64 z1), (.int .i64 z2), (.int .i64 z3), (.int .i64 z4)]⟩) (((Hc ++ [some (Blk.mk .fix [(.int .i64 x0), (.int .i64 x1), (.int .i64 x2), (.int .i64 x3), (.int .i64 x4)])]) ++ [some (Blk.mk .fix [(.int .i64 y0), (.int .i64 y1), (.int .i64 y2), (.int .i64 y3), (.int .i64 y4)])]) ++ [some (Blk.mk .fix [(.int .i64 z0), (.int .i64 z1), (.int .i64 z2), (.int .i64 z3), (.int .i64 z4)])]) (.con (.con (.use 32 (.agg ⟨[(.int .i64 x0), (.int .i64 x1), (.int .i64 x2), (.int .i64 x3), (.int .i64 x4)]⟩) (((Hc ++ [some (Blk.mk .fix [(.int .i64 x0), (.int .i64 x1), (.int .i64 x2), (.int .i64 x3), (.int .i64 x4)])]) ++ [some (Blk.mk .fix [(.int .i64 y0), (.int .i64 y1), (.int .i64 y2), (.int .i64 y3), (.int .i64 y4)])]) ++ [some (Blk.mk .fix [(.int .i64 z0), (.int .i64 z1), (.int .i64 z2), (.int .i64 z3), (.int .i64 z4)])]) (.con (.use 33 (.agg ⟨[(.int .i64 y0), (.int .i64 y1), (.int .i64 y2), (.int .i64 y3), (.int .i64 y4)]⟩) (((Hc ++ [some (Blk.mk .fix [(.int .i64 x0), (.int .i64 x1), (.int .i64 x2), (.int .i64 x3), (.int .i64 x4)])]) ++ [some (Blk.mk .fix [(.int .i64 y0), (.int .i64 y1), (.int .i64 y2), (.int .i64 y3), (.int .i64 y4)])]) ++ [some (Blk.mk .fix [(.int .i64 z0), (.int .i64 z1), (.int .i64 z2), (.int .i64 z3), (.int .i64 z4)])]) (.con (.use 34 (.agg ⟨[(.int .i64 z0), (.int .i64 z1), (.int .i64 z2), (.int .i64 z3), (.int .i64 z4)]⟩) (((Hc ++ [some (Blk.mk .fix [(.int .i64 x0), (.int .i64 x1), (.int .i64 x2), (.int .i64 x3), (.int .i64 x4)])]) ++ [some (Blk.mk .fix [(.int .i64 y0), (.int .i64 y1), (.int .i64 y2), (.int .i64 y3), (.int .i64 y4)])]) ++ [some (Blk.mk .fix [(.int .i64 z0), (.int .i64 z1), (.int .i64 z2), (.int .i64 z3), (.int .i64 z4)])]) (.con (.con (.con (.con (.yes (.use 40 (.agg ⟨[(.int .i64 x0), (.int .i64 x1), (.int .i64 x2), (.int .i64 x3), (.int .i64 x4)]⟩) (((Hc ++ [some (Blk.mk .fix [(.int .i64 x0), (.int .i64 x1), (.int .i64 x2), (.int .i64 x3), (.int .i64 x4)])]) ++ [some (Blk.mk .fix [(.int .i64 y0), (.int .i64 y1), (.int .i64 y2), (.int .i64 y3), (.int .i64 y4)])]) ++ [some (Blk.mk .fix [(.int .i64 z0), (.int .i64 z1), (.int .i64 z2), (.int .i64 z3), (.int .i64 z4)])]) (.con (.use 41 (.agg ⟨[(.int .i64 y0), (.int .i64 y1), (.int .i64 y2), (.int .i64 y3), (.int .i64 y4)]⟩) (((Hc ++ [some (Blk.mk .fix [(.int .i64 x0), (.int .i64 x1), (.int .i64 x2), (.int .i64 x3), (.int .i64 x4)])]) ++ [some (Blk.mk .fix [(.int .i64 y0), (.int .i64 y1), (.int .i64 y2), (.int .i64 y3), (.int .i64 y4)])]) ++ [some (Blk.mk .fix [(.int .i64 z0), (.int .i64 z1), (.int .i64 z2), (.int .i64 z3), (.int .i64 z4)])]) (.con (.con (.con (.use 44 (.agg ⟨[(.int .i64 x0), (.int .i64 x1), (.int .i64 x2), (.int .i64 x3), (.int .i64 x4)]⟩) (((Hc ++ [some (Blk.mk .fix [(.int .i64 x0), (.int .i64 x1), (.int .i64 x2), (.int .i64 x3), (.int .i64 x4)])]) ++ [some (Blk.mk .fix [(.int .i64 y0), (.int .i64 y1), (.int .i64 y2), (.int .i64 y3), (.int .i64 y4)])]) ++ [some (Blk.mk .fix [(.int .i64 z0), (.int .i64 z1), (.int .i64 z2), (.int .i64 z3), (.int .i64 z4)])]) (.con (.con (.use 46 (.agg ⟨[(.int .i64 y0), (.int .i64 y1), (.int .i64 y2), (.int .i64 y3), (.int .i64 y4)]⟩) (((Hc ++ [some (Blk.mk .fix [(.int .i64 x0), (.int .i64 x1), (.int .i64 x2), (.int .i64 x3), (.int .i64 x4)])]) ++ [some (Blk.mk .fix [(.int .i64 y0), (.int .i64 y1), (.int .i64 y2), (.int .i64 y3), (.int .i64 y4)])]) ++ [some (Blk.mk .fix [(.int .i64 z0), (.int .i64 z1), (.int .i64 z2), (.int .i64 z3), (.int .i64 z4)])]) (.con (.con (.con (.con (.yes (.use 52 (.agg ⟨[(.int .i64 x0), (.int .i64 x1), (.int .i64 x2), (.int .i64 x3), (.int .i64 x4)]⟩) (((Hc ++ [some (Blk.mk .fix [(.int .i64 x0), (.int .i64 x1), (.int .i64 x2), (.int .i64 x3), (.int .i64 x4)])]) ++ [some (Blk.mk .fix [(.int .i64 y0), (.int .i64 y1), (.int .i64 y2), (.int .i64 y3), (.int .i64 y4)])]) ++ [some (Blk.mk .fix [(.int .i64 z0), (.int .i64 z1), (.int .i64 z2), (.int .i64 z3), (.int .i64 z4)])]) (.con (.con (.con (.use 55 (.agg ⟨[(.int .i64 x0), (.int .i64 x1), (.int .i64 x2), (.int .i64 x3), (.int .i64 x4)]⟩) (((Hc ++ [some (Blk.mk .fix [(.int .i64 x0), (.int .i64 x1), (.int .i64 x2), (.int .i64 x3), (.int .i64 x4)])]) ++ [some (Blk.mk .fix [(.int .i64 y0), (.int .i64 y1), (.int .i64 y2), (.int .i64 y3), (.int .i64 y4)])]) ++ [some (Blk.mk .fix [(.int .i64 z0), (.int .i64 z1), (.int .i64 z2), (.int .i64 z3), (.int .i64 z4)])]) (.con (.con (.yes (.con .nil))))))))))))))))))))))))))))))))))))))))))))))))
theorem tree14a (s0 s1 s2 s3 s4 s5 u0 u1 u2 u3 u4 u5 w0 w1 w2 w3 w4 w5 la lb lc : Value) (x0 x1 x2 x3 x4 : Int) (y0 y1 y2 y3 y4 : Int) (z0 z1 z2 z3 z4 : Int) (H Ha Hb Hc : Heap) : pieceT tblP gL 100 (resLv [.tmp 6]) il14a (hn14a s0 s1 s2 s3 s4 s5 u0 u1 u2 u3 u4 u5 w0 w1 w2 w3 w4 w5 la lb lc x0 x1 x2 x3 x4 y0 y1 y2 y3 y4 z0 z1 z2 z3 z4 H Ha Hb Hc) (fr 61 [(0, (.agg ⟨[s0, s1, s2, s3, s4, s5]⟩)), (1, (.agg ⟨[u0, u1, u2, u3, u4, u5]⟩)), (2, (.agg ⟨[w0, w1, w2, w3, w4, w5]⟩))]) H =
(.claim (opA (Plain.env tblP gL) (.load (.const (.pointer (some ⟨(H).length, 0, none⟩))) (some 6)) [] (((H ++ [some (Blk.mk .fix [s0, s1, s2, s3, s4, s5])]) ++ [some (Blk.mk .fix [u0, u1, u2, u3, u4, u5])]) ++ [some (Blk.mk .fix [w0, w1, w2, w3, w4, w5])]) = some ((.agg ⟨[s0, s1, s2, s3, s4, s5]⟩), (((H ++ [some (Blk.mk .fix [s0, s1, s2, s3, s4, s5])]) ++ [some (Blk.mk .fix [u0, u1, u2, u3, u4, u5])]) ++ [some (Blk.mk .fix [w0, w1, w2, w3, w4, w5])])))
 (.claim (opA (Plain.env tblP gL) (.call 33 [(.const (.agg ⟨[s0, s1, s2, s3, s4, s5]⟩))]) [] (((H ++ [some (Blk.mk .fix [s0, s1, s2, s3, s4, s5])]) ++ [some (Blk.mk .fix [u0, u1, u2, u3, u4, u5])]) ++ [some (Blk.mk .fix [w0, w1, w2, w3, w4, w5])]) = some (la, Ha))
 (.claim (opA (Plain.env tblP gL) (.call 30 [(.const la)]) [] Ha = some ((.agg ⟨[(.int .i64 x0), (.int .i64 x1), (.int .i64 x2), (.int .i64 x3), (.int .i64 x4)]⟩), Ha))
 (.claim (opA (Plain.env tblP gL) (.load (.const (.pointer (some ⟨((H ++ [some (Blk.mk .fix [s0, s1, s2, s3, s4, s5])])).length, 0, none⟩))) (some 6)) [] Ha = some ((.agg ⟨[u0, u1, u2, u3, u4, u5]⟩), Ha))
 (.claim (opA (Plain.env tblP gL) (.call 33 [(.const (.agg ⟨[u0, u1, u2, u3, u4, u5]⟩))]) [] Ha = some (lb, Hb))
 (.claim (opA (Plain.env tblP gL) (.call 30 [(.const lb)]) [] Hb = some ((.agg ⟨[(.int .i64 y0), (.int .i64 y1), (.int .i64 y2), (.int .i64 y3), (.int .i64 y4)]⟩), Hb))
 (.claim (opA (Plain.env tblP gL) (.load (.const (.pointer (some ⟨(((H ++ [some (Blk.mk .fix [s0, s1, s2, s3, s4, s5])]) ++ [some (Blk.mk .fix [u0, u1, u2, u3, u4, u5])])).length, 0, none⟩))) (some 6)) [] Hb = some ((.agg ⟨[w0, w1, w2, w3, w4, w5]⟩), Hb))
 (.claim (opA (Plain.env tblP gL) (.call 33 [(.const (.agg ⟨[w0, w1, w2, w3, w4, w5]⟩))]) [] Hb = some (lc, Hc))
 (.claim (opA (Plain.env tblP gL) (.call 30 [(.const lc)]) [] Hc = some ((.agg ⟨[(.int .i64 z0), (.int .i64 z1), (.int .i64 z2), (.int .i64 z3), (.int .i64 z4)]⟩), Hc))
 (.req true (.req true (.req true (.claim (opA (Plain.env tblP gL) (.store (.const (.pointer (some ⟨(Hc).length, 0, none⟩))) (.const (.agg ⟨[(.int .i64 x0), (.int .i64 x1), (.int .i64 x2), (.int .i64 x3), (.int .i64 x4)]⟩)) 5) [] (((Hc ++ [some (Blk.mk .fix [(.int .i64 0), (.int .i64 0), (.int .i64 0), (.int .i64 0), (.int .i64 0)])]) ++ [some (Blk.mk .fix [(.int .i64 0), (.int .i64 0), (.int .i64 0), (.int .i64 0), (.int .i64 0)])]) ++ [some (Blk.mk .fix [(.int .i64 0), (.int .i64 0), (.int .i64 0), (.int .i64 0), (.int .i64 0)])]) = some ((.tuple ⟨[]⟩), (((Hc ++ [some (Blk.mk .fix [(.int .i64 x0), (.int .i64 x1), (.int .i64 x2), (.int .i64 x3), (.int .i64 x4)])]) ++ [some (Blk.mk .fix [(.int .i64 0), (.int .i64 0), (.int .i64 0), (.int .i64 0), (.int .i64 0)])]) ++ [some (Blk.mk .fix [(.int .i64 0), (.int .i64 0), (.int .i64 0), (.int .i64 0), (.int .i64 0)])])))
 (.claim (opA (Plain.env tblP gL) (.store (.const (.pointer (some ⟨((Hc ++ [some (Blk.mk .fix [(.int .i64 0), (.int .i64 0), (.int .i64 0), (.int .i64 0), (.int .i64 0)])])).length, 0, none⟩))) (.const (.agg ⟨[(.int .i64 y0), (.int .i64 y1), (.int .i64 y2), (.int .i64 y3), (.int .i64 y4)]⟩)) 5) [] (((Hc ++ [some (Blk.mk .fix [(.int .i64 x0), (.int .i64 x1), (.int .i64 x2), (.int .i64 x3), (.int .i64 x4)])]) ++ [some (Blk.mk .fix [(.int .i64 0), (.int .i64 0), (.int .i64 0), (.int .i64 0), (.int .i64 0)])]) ++ [some (Blk.mk .fix [(.int .i64 0), (.int .i64 0), (.int .i64 0), (.int .i64 0), (.int .i64 0)])]) = some ((.tuple ⟨[]⟩), (((Hc ++ [some (Blk.mk .fix [(.int .i64 x0), (.int .i64 x1), (.int .i64 x2), (.int .i64 x3), (.int .i64 x4)])]) ++ [some (Blk.mk .fix [(.int .i64 y0), (.int .i64 y1), (.int .i64 y2), (.int .i64 y3), (.int .i64 y4)])]) ++ [some (Blk.mk .fix [(.int .i64 0), (.int .i64 0), (.int .i64 0), (.int .i64 0), (.int .i64 0)])])))
 (.claim (opA (Plain.env tblP gL) (.store (.const (.pointer (some ⟨(((Hc ++ [some (Blk.mk .fix [(.int .i64 0), (.int .i64 0), (.int .i64 0), (.int .i64 0), (.int .i64 0)])]) ++ [some (Blk.mk .fix [(.int .i64 0), (.int .i64 0), (.int .i64 0), (.int .i64 0), (.int .i64 0)])])).length, 0, none⟩))) (.const (.agg ⟨[(.int .i64 z0), (.int .i64 z1), (.int .i64 z2), (.int .i64 z3), (.int .i64 z4)]⟩)) 5) [] (((Hc ++ [some (Blk.mk .fix [(.int .i64 x0), (.int .i64 x1), (.int .i64 x2), (.int .i64 x3), (.int .i64 x4)])]) ++ [some (Blk.mk .fix [(.int .i64 y0), (.int .i64 y1), (.int .i64 y2), (.int .i64 y3), (.int .i64 y4)])]) ++ [some (Blk.mk .fix [(.int .i64 0), (.int .i64 0), (.int .i64 0), (.int .i64 0), (.int .i64 0)])]) = some ((.tuple ⟨[]⟩), (((Hc ++ [some (Blk.mk .fix [(.int .i64 x0), (.int .i64 x1), (.int .i64 x2), (.int .i64 x3), (.int .i64 x4)])]) ++ [some (Blk.mk .fix [(.int .i64 y0), (.int .i64 y1), (.int .i64 y2), (.int .i64 y3), (.int .i64 y4)])]) ++ [some (Blk.mk .fix [(.int .i64 z0), (.int .i64 z1), (.int .i64 z2), (.int .i64 z3), (.int .i64 z4)])])))
 (.claim ((∃ h2, opA (Plain.env tblP gL) (.call 30 [(.const la)]) [] (Hc ++ [some (Blk.mk .fix [(.int .i64 0), (.int .i64 0), (.int .i64 0), (.int .i64 0), (.int .i64 0)])]) = some ((.agg ⟨[(.int .i64 x0), (.int .i64 x1), (.int .i64 x2), (.int .i64 x3), (.int .i64 x4)]⟩), h2)) ∧ eqV (.agg ⟨[(.int .i64 x0), (.int .i64 x1), (.int .i64 x2), (.int .i64 x3), (.int .i64 x4)]⟩) (.agg ⟨[(.int .i64 x0), (.int .i64 x1), (.int .i64 x2), (.int .i64 x3), (.int .i64 x4)]⟩) = true)
 (.claim ((∃ h2, opA (Plain.env tblP gL) (.call 30 [(.const la)]) [] ((Hc ++ [some (Blk.mk .fix [(.int .i64 0), (.int .i64 0), (.int .i64 0), (.int .i64 0), (.int .i64 0)])]) ++ [some (Blk.mk .fix [(.int .i64 0), (.int .i64 0), (.int .i64 0), (.int .i64 0), (.int .i64 0)])]) = some ((.agg ⟨[(.int .i64 x0), (.int .i64 x1), (.int .i64 x2), (.int .i64 x3), (.int .i64 x4)]⟩), h2)) ∧ eqV (.agg ⟨[(.int .i64 x0), (.int .i64 x1), (.int .i64 x2), (.int .i64 x3), (.int .i64 x4)]⟩) (.agg ⟨[(.int .i64 x0), (.int .i64 x1), (.int .i64 x2), (.int .i64 x3), (.int .i64 x4)]⟩) = true)
 (.claim ((∃ h2, opA (Plain.env tblP gL) (.call 30 [(.const la)]) [] (((Hc ++ [some (Blk.mk .fix [(.int .i64 0), (.int .i64 0), (.int .i64 0), (.int .i64 0), (.int .i64 0)])]) ++ [some (Blk.mk .fix [(.int .i64 0), (.int .i64 0), (.int .i64 0), (.int .i64 0), (.int .i64 0)])]) ++ [some (Blk.mk .fix [(.int .i64 0), (.int .i64 0), (.int .i64 0), (.int .i64 0), (.int .i64 0)])]) = some ((.agg ⟨[(.int .i64 x0), (.int .i64 x1), (.int .i64 x2), (.int .i64 x3), (.int .i64 x4)]⟩), h2)) ∧ eqV (.agg ⟨[(.int .i64 x0), (.int .i64 x1), (.int .i64 x2), (.int .i64 x3), (.int .i64 x4)]⟩) (.agg ⟨[(.int .i64 x0), (.int .i64 x1), (.int .i64 x2), (.int .i64 x3), (.int .i64 x4)]⟩) = true)
 (.claim ((∃ h2, opA (Plain.env tblP gL) (.load (.const (.pointer (some ⟨((H ++ [some (Blk.mk .fix [s0, s1, s2, s3, s4, s5])])).length, 0, none⟩))) (some 6)) [] (((H ++ [some (Blk.mk .fix [s0, s1, s2, s3, s4, s5])]) ++ [some (Blk.mk .fix [u0, u1, u2, u3, u4, u5])]) ++ [some (Blk.mk .fix [w0, w1, w2, w3, w4, w5])]) = some ((.agg ⟨[u0, u1, u2, u3, u4, u5]⟩), h2)) ∧ eqV (.agg ⟨[u0, u1, u2, u3, u4, u5]⟩) (.agg ⟨[u0, u1, u2, u3, u4, u5]⟩) = true)
 (.claim ((∃ h2, opA (Plain.env tblP gL) (.call 30 [(.const lb)]) [] (Hc ++ [some (Blk.mk .fix [(.int .i64 0), (.int .i64 0), (.int .i64 0), (.int .i64 0), (.int .i64 0)])]) = some ((.agg ⟨[(.int .i64 y0), (.int .i64 y1), (.int .i64 y2), (.int .i64 y3), (.int .i64 y4)]⟩), h2)) ∧ eqV (.agg ⟨[(.int .i64 y0), (.int .i64 y1), (.int .i64 y2), (.int .i64 y3), (.int .i64 y4)]⟩) (.agg ⟨[(.int .i64 y0), (.int .i64 y1), (.int .i64 y2), (.int .i64 y3), (.int .i64 y4)]⟩) = true)
 (.claim ((∃ h2, opA (Plain.env tblP gL) (.call 30 [(.const lb)]) [] ((Hc ++ [some (Blk.mk .fix [(.int .i64 0), (.int .i64 0), (.int .i64 0), (.int .i64 0), (.int .i64 0)])]) ++ [some (Blk.mk .fix [(.int .i64 0), (.int .i64 0), (.int .i64 0), (.int .i64 0), (.int .i64 0)])]) = some ((.agg ⟨[(.int .i64 y0), (.int .i64 y1), (.int .i64 y2), (.int .i64 y3), (.int .i64 y4)]⟩), h2)) ∧ eqV (.agg ⟨[(.int .i64 y0), (.int .i64 y1), (.int .i64 y2), (.int .i64 y3), (.int .i64 y4)]⟩) (.agg ⟨[(.int .i64 y0), (.int .i64 y1), (.int .i64 y2), (.int .i64 y3), (.int .i64 y4)]⟩) = true)
 (.claim ((∃ h2, opA (Plain.env tblP gL) (.call 30 [(.const lb)]) [] (((Hc ++ [some (Blk.mk .fix [(.int .i64 0), (.int .i64 0), (.int .i64 0), (.int .i64 0), (.int .i64 0)])]) ++ [some (Blk.mk .fix [(.int .i64 0), (.int .i64 0), (.int .i64 0), (.int .i64 0), (.int .i64 0)])]) ++ [some (Blk.mk .fix [(.int .i64 0), (.int .i64 0), (.int .i64 0), (.int .i64 0), (.int .i64 0)])]) = some ((.agg ⟨[(.int .i64 y0), (.int .i64 y1), (.int .i64 y2), (.int .i64 y3), (.int .i64 y4)]⟩), h2)) ∧ eqV (.agg ⟨[(.int .i64 y0), (.int .i64 y1), (.int .i64 y2), (.int .i64 y3), (.int .i64 y4)]⟩) (.agg ⟨[(.int .i64 y0), (.int .i64 y1), (.int .i64 y2), (.int .i64 y3), (.int .i64 y4)]⟩) = true)
 (.claim ((∃ h2, opA (Plain.env tblP gL) (.load (.const (.pointer (some ⟨(((H ++ [some (Blk.mk .fix [s0, s1, s2, s3, s4, s5])]) ++ [some (Blk.mk .fix [u0, u1, u2, u3, u4, u5])])).length, 0, none⟩))) (some 6)) [] (((H ++ [some (Blk.mk .fix [s0, s1, s2, s3, s4, s5])]) ++ [some (Blk.mk .fix [u0, u1, u2, u3, u4, u5])]) ++ [some (Blk.mk .fix [w0, w1, w2, w3, w4, w5])]) = some ((.agg ⟨[w0, w1, w2, w3, w4, w5]⟩), h2)) ∧ eqV (.agg ⟨[w0, w1, w2, w3, w4, w5]⟩) (.agg ⟨[w0, w1, w2, w3, w4, w5]⟩) = true)
 (.claim ((∃ h2, opA (Plain.env tblP gL) (.load (.const (.pointer (some ⟨(((H ++ [some (Blk.mk .fix [s0, s1, s2, s3, s4, s5])]) ++ [some (Blk.mk .fix [u0, u1, u2, u3, u4, u5])])).length, 0, none⟩))) (some 6)) [] Ha = some ((.agg ⟨[w0, w1, w2, w3, w4, w5]⟩), h2)) ∧ eqV (.agg ⟨[w0, w1, w2, w3, w4, w5]⟩) (.agg ⟨[w0, w1, w2, w3, w4, w5]⟩) = true)
 (.claim ((∃ h2, opA (Plain.env tblP gL) (.call 30 [(.const lc)]) [] (Hc ++ [some (Blk.mk .fix [(.int .i64 0), (.int .i64 0), (.int .i64 0), (.int .i64 0), (.int .i64 0)])]) = some ((.agg ⟨[(.int .i64 z0), (.int .i64 z1), (.int .i64 z2), (.int .i64 z3), (.int .i64 z4)]⟩), h2)) ∧ eqV (.agg ⟨[(.int .i64 z0), (.int .i64 z1), (.int .i64 z2), (.int .i64 z3), (.int .i64 z4)]⟩) (.agg ⟨[(.int .i64 z0), (.int .i64 z1), (.int .i64 z2), (.int .i64 z3), (.int .i64 z4)]⟩) = true)
 (.claim ((∃ h2, opA (Plain.env tblP gL) (.call 30 [(.const lc)]) [] ((Hc ++ [some (Blk.mk .fix [(.int .i64 0), (.int .i64 0), (.int .i64 0), (.int .i64 0), (.int .i64 0)])]) ++ [some (Blk.mk .fix [(.int .i64 0), (.int .i64 0), (.int .i64 0), (.int .i64 0), (.int .i64 0)])]) = some ((.agg ⟨[(.int .i64 z0), (.int .i64 z1), (.int .i64 z2), (.int .i64 z3), (.int .i64 z4)]⟩), h2)) ∧ eqV (.agg ⟨[(.int .i64 z0), (.int .i64 z1), (.int .i64 z2), (.int .i64 z3), (.int .i64 z4)]⟩) (.agg ⟨[(.int .i64 z0), (.int .i64 z1), (.int .i64 z2), (.int .i64 z3), (.int .i64 z4)]⟩) = true)
 (.claim ((∃ h2, opA (Plain.env tblP gL) (.call 30 [(.const lc)]) [] (((Hc ++ [some (Blk.mk .fix [(.int .i64 0), (.int .i64 0), (.int .i64 0), (.int .i64 0), (.int .i64 0)])]) ++ [some (Blk.mk .fix [(.int .i64 0), (.int .i64 0), (.int .i64 0), (.int .i64 0), (.int .i64 0)])]) ++ [some (Blk.mk .fix [(.int .i64 0), (.int .i64 0), (.int .i64 0), (.int .i64 0), (.int .i64 0)])]) = some ((.agg ⟨[(.int .i64 z0), (.int .i64 z1), (.int .i64 z2), (.int .i64 z3), (.int .i64 z4)]⟩), h2)) ∧ eqV (.agg ⟨[(.int .i64 z0), (.int .i64 z1), (.int .i64 z2), (.int .i64 z3), (.int .i64 z4)]⟩) (.agg ⟨[(.int .i64 z0), (.int .i64 z1), (.int .i64 z2), (.int .i64 z3), (.int .i64 z4)]⟩) = true)
 (.req true (.claim (opA (Plain.env tblP gL) (.load (.const (.pointer (some ⟨(Hc).length, 0, none⟩))) (some 5)) [] (((Hc ++ [some (Blk.mk .fix [(.int .i64 x0), (.int .i64 x1), (.int .i64 x2), (.int .i64 x3), (.int .i64 x4)])]) ++ [some (Blk.mk .fix [(.int .i64 y0), (.int .i64 y1), (.int .i64 y2), (.int .i64 y3), (.int .i64 y4)])]) ++ [some (Blk.mk .fix [(.int .i64 z0), (.int .i64 z1), (.int .i64 z2), (.int .i64 z3), (.int .i64 z4)])]) = some ((.agg ⟨[(.int .i64 x0), (.int .i64 x1), (.int .i64 x2), (.int .i64 x3), (.int .i64 x4)]⟩), (((Hc ++ [some (Blk.mk .fix [(.int .i64 x0), (.int .i64 x1), (.int .i64 x2), (.int .i64 x3), (.int .i64 x4)])]) ++ [some (Blk.mk .fix [(.int .i64 y0), (.int .i64 y1), (.int .i64 y2), (.int .i64 y3), (.int .i64 y4)])]) ++ [some (Blk.mk .fix [(.int .i64 z0), (.int .i64 z1), (.int .i64 z2), (.int .i64 z3), (.int .i64 z4)])])))
 (.claim (opA (Plain.env tblP gL) (.load (.const (.pointer (some ⟨((Hc ++ [some (Blk.mk .fix [(.int .i64 0), (.int .i64 0), (.int .i64 0), (.int .i64 0), (.int .i64 0)])])).length, 0, none⟩))) (some 5)) [] (((Hc ++ [some (Blk.mk .fix [(.int .i64 x0), (.int .i64 x1), (.int .i64 x2), (.int .i64 x3), (.int .i64 x4)])]) ++ [some (Blk.mk .fix [(.int .i64 y0), (.int .i64 y1), (.int .i64 y2), (.int .i64 y3), (.int .i64 y4)])]) ++ [some (Blk.mk .fix [(.int .i64 z0), (.int .i64 z1), (.int .i64 z2), (.int .i64 z3), (.int .i64 z4)])]) = some ((.agg ⟨[(.int .i64 y0), (.int .i64 y1), (.int .i64 y2), (.int .i64 y3), (.int .i64 y4)]⟩), (((Hc ++ [some (Blk.mk .fix [(.int .i64 x0), (.int .i64 x1), (.int .i64 x2), (.int .i64 x3), (.int .i64 x4)])]) ++ [some (Blk.mk .fix [(.int .i64 y0), (.int .i64 y1), (.int .i64 y2), (.int .i64 y3), (.int .i64 y4)])]) ++ [some (Blk.mk .fix [(.int .i64 z0), (.int .i64 z1), (.int .i64 z2), (.int .i64 z3), (.int .i64 z4)])])))
 (.req true (.claim (opA (Plain.env tblP gL) (.load (.const (.pointer (some ⟨((Hc ++ [some (Blk.mk .fix [(.int .i64 0), (.int .i64 0), (.int .i64 0), (.int .i64 0), (.int .i64 0)])])).length, 0, none⟩))) (some 5)) [] (((Hc ++ [some (Blk.mk .fix [(.int .i64 x0), (.int .i64 x1), (.int .i64 x2), (.int .i64 x3), (.int .i64 x4)])]) ++ [some (Blk.mk .fix [(.int .i64 y0), (.int .i64 y1), (.int .i64 y2), (.int .i64 y3), (.int .i64 y4)])]) ++ [some (Blk.mk .fix [(.int .i64 z0), (.int .i64 z1), (.int .i64 z2), (.int .i64 z3), (.int .i64 z4)])]) = some ((.agg ⟨[(.int .i64 y0), (.int .i64 y1), (.int .i64 y2), (.int .i64 y3), (.int .i64 y4)]⟩), (((Hc ++ [some (Blk.mk .fix [(.int .i64 x0), (.int .i64 x1), (.int .i64 x2), (.int .i64 x3), (.int .i64 x4)])]) ++ [some (Blk.mk .fix [(.int .i64 y0), (.int .i64 y1), (.int .i64 y2), (.int .i64 y3), (.int .i64 y4)])]) ++ [some (Blk.mk .fix [(.int .i64 z0), (.int .i64 z1), (.int .i64 z2), (.int .i64 z3), (.int .i64 z4)])])))
 (.claim (opA (Plain.env tblP gL) (.load (.const (.pointer (some ⟨(Hc).length, 0, none⟩))) (some 5)) [] (((Hc ++ [some (Blk.mk .fix [(.int .i64 x0), (.int .i64 x1), (.int .i64 x2), (.int .i64 x3), (.int .i64 x4)])]) ++ [some (Blk.mk .fix [(.int .i64 y0), (.int .i64 y1), (.int .i64 y2), (.int .i64 y3), (.int .i64 y4)])]) ++ [some (Blk.mk .fix [(.int .i64 z0), (.int .i64 z1), (.int .i64 z2), (.int .i64 z3), (.int .i64 z4)])]) = some ((.agg ⟨[(.int .i64 x0), (.int .i64 x1), (.int .i64 x2), (.int .i64 x3), (.int .i64 x4)]⟩), (((Hc ++ [some (Blk.mk .fix [(.int .i64 x0), (.int .i64 x1), (.int .i64 x2), (.int .i64 x3), (.int .i64 x4)])]) ++ [some (Blk.mk .fix [(.int .i64 y0), (.int .i64 y1), (.int .i64 y2), (.int .i64 y3), (.int .i64 y4)])]) ++ [some (Blk.mk .fix [(.int .i64 z0), (.int .i64 z1), (.int .i64 z2), (.int .i64 z3), (.int .i64 z4)])])))
 (.req true (.req (((pl x0 y0) == (pl y0 x0)) && (((pl x1 y1) == (pl y1 x1)) && (((pl x2 y2) == (pl y2 x2)) && (((pl x3 y3) == (pl y3 x3)) && (((pl x4 y4) == (pl y4 x4)) && true))))) (.claim (opA (Plain.env tblP gL) (.load (.const (.pointer (some ⟨(Hc).length, 0, none⟩))) (some 5)) [] (((Hc ++ [some (Blk.mk .fix [(.int .i64 x0), (.int .i64 x1), (.int .i64 x2), (.int .i64 x3), (.int .i64 x4)])]) ++ [some (Blk.mk .fix [(.int .i64 y0), (.int .i64 y1), (.int .i64 y2), (.int .i64 y3), (.int .i64 y4)])]) ++ [some (Blk.mk .fix [(.int .i64 z0), (.int .i64 z1), (.int .i64 z2), (.int .i64 z3), (.int .i64 z4)])]) = some ((.agg ⟨[(.int .i64 x0), (.int .i64 x1), (.int .i64 x2), (.int .i64 x3), (.int .i64 x4)]⟩), (((Hc ++ [some (Blk.mk .fix [(.int .i64 x0), (.int .i64 x1), (.int .i64 x2), (.int .i64 x3), (.int .i64 x4)])]) ++ [some (Blk.mk .fix [(.int .i64 y0), (.int .i64 y1), (.int .i64 y2), (.int .i64 y3), (.int .i64 y4)])]) ++ [some (Blk.mk .fix [(.int .i64 z0), (.int .i64 z1), (.int .i64 z2), (.int .i64 z3), (.int .i64 z4)])])))
 (.claim (opA (Plain.env tblP gL) (.load (.const (.pointer (some ⟨((Hc ++ [some (Blk.mk .fix [(.int .i64 0), (.int .i64 0), (.int .i64 0), (.int .i64 0), (.int .i64 0)])])).length, 0, none⟩))) (some 5)) [] (((Hc ++ [some (Blk.mk .fix [(.int .i64 x0), (.int .i64 x1), (.int .i64 x2), (.int .i64 x3), (.int .i64 x4)])]) ++ [some (Blk.mk .fix [(.int .i64 y0), (.int .i64 y1), (.int .i64 y2), (.int .i64 y3), (.int .i64 y4)])]) ++ [some (Blk.mk .fix [(.int .i64 z0), (.int .i64 z1), (.int .i64 z2), (.int .i64 z3), (.int .i64 z4)])]) = some ((.agg ⟨[(.int .i64 y0), (.int .i64 y1), (.int .i64 y2), (.int .i64 y3), (.int .i64 y4)]⟩), (((Hc ++ [some (Blk.mk .fix [(.int .i64 x0), (.int .i64 x1), (.int .i64 x2), (.int .i64 x3), (.int .i64 x4)])]) ++ [some (Blk.mk .fix [(.int .i64 y0), (.int .i64 y1), (.int .i64 y2), (.int .i64 y3), (.int .i64 y4)])]) ++ [some (Blk.mk .fix [(.int .i64 z0), (.int .i64 z1), (.int .i64 z2), (.int .i64 z3), (.int .i64 z4)])])))
 (.req true (.claim (opA (Plain.env tblP gL) (.load (.const (.pointer (some ⟨(((Hc ++ [some (Blk.mk .fix [(.int .i64 0), (.int .i64 0), (.int .i64 0), (.int .i64 0), (.int .i64 0)])]) ++ [some (Blk.mk .fix [(.int .i64 0), (.int .i64 0), (.int .i64 0), (.int .i64 0), (.int .i64 0)])])).length, 0, none⟩))) (some 5)) [] (((Hc ++ [some (Blk.mk .fix [(.int .i64 x0), (.int .i64 x1), (.int .i64 x2), (.int .i64 x3), (.int .i64 x4)])]) ++ [some (Blk.mk .fix [(.int .i64 y0), (.int .i64 y1), (.int .i64 y2), (.int .i64 y3), (.int .i64 y4)])]) ++ [some (Blk.mk .fix [(.int .i64 z0), (.int .i64 z1), (.int .i64 z2), (.int .i64 z3), (.int .i64 z4)])]) = some ((.agg ⟨[(.int .i64 z0), (.int .i64 z1), (.int .i64 z2), (.int .i64 z3), (.int .i64 z4)]⟩), (((Hc ++ [some (Blk.mk .fix [(.int .i64 x0), (.int .i64 x1), (.int .i64 x2), (.int .i64 x3), (.int .i64 x4)])]) ++ [some (Blk.mk .fix [(.int .i64 y0), (.int .i64 y1), (.int .i64 y2), (.int .i64 y3), (.int .i64 y4)])]) ++ [some (Blk.mk .fix [(.int .i64 z0), (.int .i64 z1), (.int .i64 z2), (.int .i64 z3), (.int .i64 z4)])])))
 (.req true (.claim (opA (Plain.env tblP gL) (.load (.const (.pointer (some ⟨(Hc).length, 0, none⟩))) (some 5)) [] (((Hc ++ [some (Blk.mk .fix [(.int .i64 x0), (.int .i64 x1), (.int .i64 x2), (.int .i64 x3), (.int .i64 x4)])]) ++ [some (Blk.mk .fix [(.int .i64 y0), (.int .i64 y1), (.int .i64 y2), (.int .i64 y3), (.int .i64 y4)])]) ++ [some (Blk.mk .fix [(.int .i64 z0), (.int .i64 z1), (.int .i64 z2), (.int .i64 z3), (.int .i64 z4)])]) = some ((.agg ⟨[(.int .i64 x0), (.int .i64 x1), (.int .i64 x2), (.int .i64 x3), (.int .i64 x4)]⟩), (((Hc ++ [some (Blk.mk .fix [(.int .i64 x0), (.int .i64 x1), (.int .i64 x2), (.int .i64 x3), (.int .i64 x4)])]) ++ [some (Blk.mk .fix [(.int .i64 y0), (.int .i64 y1), (.int .i64 y2), (.int .i64 y3), (.int .i64 y4)])]) ++ [some (Blk.mk .fix [(.int .i64 z0), (.int .i64 z1), (.int .i64 z2), (.int .i64 z3), (.int .i64 z4)])])))
 (.claim (opA (Plain.env tblP gL) (.load (.const (.pointer (some ⟨((Hc ++ [some (Blk.mk .fix [(.int .i64 0), (.int .i64 0), (.int .i64 0), (.int .i64 0), (.int .i64 0)])])).length, 0, none⟩))) (some 5)) [] (((Hc ++ [some (Blk.mk .fix [(.int .i64 x0), (.int .i64 x1), (.int .i64 x2), (.int .i64 x3), (.int .i64 x4)])]) ++ [some (Blk.mk .fix [(.int .i64 y0), (.int .i64 y1), (.int .i64 y2), (.int .i64 y3), (.int .i64 y4)])]) ++ [some (Blk.mk .fix [(.int .i64 z0), (.int .i64 z1), (.int .i64 z2), (.int .i64 z3), (.int .i64 z4)])]) = some ((.agg ⟨[(.int .i64 y0), (.int .i64 y1), (.int .i64 y2), (.int .i64 y3), (.int .i64 y4)]⟩), (((Hc ++ [some (Blk.mk .fix [(.int .i64 x0), (.int .i64 x1), (.int .i64 x2), (.int .i64 x3), (.int .i64 x4)])]) ++ [some (Blk.mk .fix [(.int .i64 y0), (.int .i64 y1), (.int .i64 y2), (.int .i64 y3), (.int .i64 y4)])]) ++ [some (Blk.mk .fix [(.int .i64 z0), (.int .i64 z1), (.int .i64 z2), (.int .i64 z3), (.int .i64 z4)])])))
 (.claim (opA (Plain.env tblP gL) (.load (.const (.pointer (some ⟨(((Hc ++ [some (Blk.mk .fix [(.int .i64 0), (.int .i64 0), (.int .i64 0), (.int .i64 0), (.int .i64 0)])]) ++ [some (Blk.mk .fix [(.int .i64 0), (.int .i64 0), (.int .i64 0), (.int .i64 0), (.int .i64 0)])])).length, 0, none⟩))) (some 5)) [] (((Hc ++ [some (Blk.mk .fix [(.int .i64 x0), (.int .i64 x1), (.int .i64 x2), (.int .i64 x3), (.int .i64 x4)])]) ++ [some (Blk.mk .fix [(.int .i64 y0), (.int .i64 y1), (.int .i64 y2), (.int .i64 y3), (.int .i64 y4)])]) ++ [some (Blk.mk .fix [(.int .i64 z0), (.int .i64 z1), (.int .i64 z2), (.int .i64 z3), (.int .i64 z4)])]) = some ((.agg ⟨[(.int .i64 z0), (.int .i64 z1), (.int .i64 z2), (.int .i64 z3), (.int .i64 z4)]⟩), (((Hc ++ [some (Blk.mk .fix [(.int .i64 x0), (.int .i64 x1), (.int .i64 x2), (.int .i64 x3), (.int .i64 x4)])]) ++ [some (Blk.mk .fix [(.int .i64 y0), (.int .i64 y1), (.int .i64 y2), (.int .i64 y3), (.int .i64 y4)])]) ++ [some (Blk.mk .fix [(.int .i64 z0), (.int .i64 z1), (.int .i64 z2), (.int .i64 z3), (.int .i64 z4)])])))
 (.req true (.req true (.req (((pl (pl x0 y0) z0) == (pl x0 (pl y0 z0))) && (((pl (pl x1 y1) z1) == (pl x1 (pl y1 z1))) && (((pl (pl x2 y2) z2) == (pl x2 (pl y2 z2))) && (((pl (pl x3 y3) z3) == (pl x3 (pl y3 z3))) && (((pl (pl x4 y4) z4) == (pl x4 (pl y4 z4))) && true))))) (.claim (opA (Plain.env tblP gL) (.load (.const (.pointer (some ⟨(Hc).length, 0, none⟩))) (some 5)) [] (((Hc ++ [some (Blk.mk .fix [(.int .i64 x0), (.int .i64 x1), (.int .i64 x2), (.int .i64 x3), (.int .i64 x4)])]) ++ [some (Blk.mk .fix [(.int .i64 y0), (.int .i64 y1), (.int .i64 y2), (.int .i64 y3), (.int .i64 y4)])]) ++ [some (Blk.mk .fix [(.int .i64 z0), (.int .i64 z1), (.int .i64 z2), (.int .i64 z3), (.int .i64 z4)])]) = some ((.agg ⟨[(.int .i64 x0), (.int .i64 x1), (.int .i64 x2), (.int .i64 x3), (.int .i64 x4)]⟩), (((Hc ++ [some (Blk.mk .fix [(.int .i64 x0), (.int .i64 x1), (.int .i64 x2), (.int .i64 x3), (.int .i64 x4)])]) ++ [some (Blk.mk .fix [(.int .i64 y0), (.int .i64 y1), (.int .i64 y2), (.int .i64 y3), (.int .i64 y4)])]) ++ [some (Blk.mk .fix [(.int .i64 z0), (.int .i64 z1), (.int .i64 z2), (.int .i64 z3), (.int .i64 z4)])])))
 (.claim (opA (Plain.env tblP gL) (.load (.const (.pointer (some ⟨((Hc ++ [some (Blk.mk .fix [(.int .i64 0), (.int .i64 0), (.int .i64 0), (.int .i64 0), (.int .i64 0)])])).length, 0, none⟩))) (some 5)) [] (((Hc ++ [some (Blk.mk .fix [(.int .i64 x0), (.int .i64 x1), (.int .i64 x2), (.int .i64 x3), (.int .i64 x4)])]) ++ [some (Blk.mk .fix [(.int .i64 y0), (.int .i64 y1), (.int .i64 y2), (.int .i64 y3), (.int .i64 y4)])]) ++ [some (Blk.mk .fix [(.int .i64 z0), (.int .i64 z1), (.int .i64 z2), (.int .i64 z3), (.int .i64 z4)])]) = some ((.agg ⟨[(.int .i64 y0), (.int .i64 y1), (.int .i64 y2), (.int .i64 y3), (.int .i64 y4)]⟩), (((Hc ++ [some (Blk.mk .fix [(.int .i64 x0), (.int .i64 x1), (.int .i64 x2), (.int .i64 x3), (.int .i64 x4)])]) ++ [some (Blk.mk .fix [(.int .i64 y0), (.int .i64 y1), (.int .i64 y2), (.int .i64 y3), (.int .i64 y4)])]) ++ [some (Blk.mk .fix [(.int .i64 z0), (.int .i64 z1), (.int .i64 z2), (.int .i64 z3), (.int .i64 z4)])])))
 (.req true (.req true (.claim (opA (Plain.env tblP gL) (.load (.const (.pointer (some ⟨(Hc).length, 0, none⟩))) (some 5)) [] (((Hc ++ [some (Blk.mk .fix [(.int .i64 x0), (.int .i64 x1), (.int .i64 x2), (.int .i64 x3), (.int .i64 x4)])]) ++ [some (Blk.mk .fix [(.int .i64 y0), (.int .i64 y1), (.int .i64 y2), (.int .i64 y3), (.int .i64 y4)])]) ++ [some (Blk.mk .fix [(.int .i64 z0), (.int .i64 z1), (.int .i64 z2), (.int .i64 z3), (.int .i64 z4)])]) = some ((.agg ⟨[(.int .i64 x0), (.int .i64 x1), (.int .i64 x2), (.int .i64 x3), (.int .i64 x4)]⟩), (((Hc ++ [some (Blk.mk .fix [(.int .i64 x0), (.int .i64 x1), (.int .i64 x2), (.int .i64 x3), (.int .i64 x4)])]) ++ [some (Blk.mk .fix [(.int .i64 y0), (.int .i64 y1), (.int .i64 y2), (.int .i64 y3), (.int .i64 y4)])]) ++ [some (Blk.mk .fix [(.int .i64 z0), (.int .i64 z1), (.int .i64 z2), (.int .i64 z3), (.int .i64 z4)])])))
 (.req true (.claim (opA (Plain.env tblP gL) (.load (.const (.pointer (some ⟨((Hc ++ [some (Blk.mk .fix [(.int .i64 0), (.int .i64 0), (.int .i64 0), (.int .i64 0), (.int .i64 0)])])).length, 0, none⟩))) (some 5)) [] (((Hc ++ [some (Blk.mk .fix [(.int .i64 x0), (.int .i64 x1), (.int .i64 x2), (.int .i64 x3), (.int .i64 x4)])]) ++ [some (Blk.mk .fix [(.int .i64 y0), (.int .i64 y1), (.int .i64 y2), (.int .i64 y3), (.int .i64 y4)])]) ++ [some (Blk.mk .fix [(.int .i64 z0), (.int .i64 z1), (.int .i64 z2), (.int .i64 z3), (.int .i64 z4)])]) = some ((.agg ⟨[(.int .i64 y0), (.int .i64 y1), (.int .i64 y2), (.int .i64 y3), (.int .i64 y4)]⟩), (((Hc ++ [some (Blk.mk .fix [(.int .i64 x0), (.int .i64 x1), (.int .i64 x2), (.int .i64 x3), (.int .i64 x4)])]) ++ [some (Blk.mk .fix [(.int .i64 y0), (.int .i64 y1), (.int .i64 y2), (.int .i64 y3), (.int .i64 y4)])]) ++ [some (Blk.mk .fix [(.int .i64 z0), (.int .i64 z1), (.int .i64 z2), (.int .i64 z3), (.int .i64 z4)])])))
 (.req true (.req ((pl (pl (pl (pl x0 y0) (pl x1 y1)) (pl x2 y2)) (pl x3 y3)) == (IntKind.wrap .i64 ((pl (pl (pl x0 x1) x2) x3) + (pl (pl (pl y0 y1) y2) y3)))) (.claim (opA (Plain.env tblP gL) (.load (.const (.pointer (some ⟨(Hc).length, 0, none⟩))) (some 5)) [] (((Hc ++ [some (Blk.mk .fix [(.int .i64 x0), (.int .i64 x1), (.int .i64 x2), (.int .i64 x3), (.int .i64 x4)])]) ++ [some (Blk.mk .fix [(.int .i64 y0), (.int .i64 y1), (.int .i64 y2), (.int .i64 y3), (.int .i64 y4)])]) ++ [some (Blk.mk .fix [(.int .i64 z0), (.int .i64 z1), (.int .i64 z2), (.int .i64 z3), (.int .i64 z4)])]) = some ((.agg ⟨[(.int .i64 x0), (.int .i64 x1), (.int .i64 x2), (.int .i64 x3), (.int .i64 x4)]⟩), (((Hc ++ [some (Blk.mk .fix [(.int .i64 x0), (.int .i64 x1), (.int .i64 x2), (.int .i64 x3), (.int .i64 x4)])]) ++ [some (Blk.mk .fix [(.int .i64 y0), (.int .i64 y1), (.int .i64 y2), (.int .i64 y3), (.int .i64 y4)])]) ++ [some (Blk.mk .fix [(.int .i64 z0), (.int .i64 z1), (.int .i64 z2), (.int .i64 z3), (.int .i64 z4)])])))
 (.req true (.claim (opA (Plain.env tblP gL) (.load (.const (.pointer (some ⟨(Hc).length, 0, none⟩))) (some 5)) [] (((Hc ++ [some (Blk.mk .fix [(.int .i64 x0), (.int .i64 x1), (.int .i64 x2), (.int .i64 x3), (.int .i64 x4)])]) ++ [some (Blk.mk .fix [(.int .i64 y0), (.int .i64 y1), (.int .i64 y2), (.int .i64 y3), (.int .i64 y4)])]) ++ [some (Blk.mk .fix [(.int .i64 z0), (.int .i64 z1), (.int .i64 z2), (.int .i64 z3), (.int .i64 z4)])]) = some ((.agg ⟨[(.int .i64 x0), (.int .i64 x1), (.int .i64 x2), (.int .i64 x3), (.int .i64 x4)]⟩), (((Hc ++ [some (Blk.mk .fix [(.int .i64 x0), (.int .i64 x1), (.int .i64 x2), (.int .i64 x3), (.int .i64 x4)])]) ++ [some (Blk.mk .fix [(.int .i64 y0), (.int .i64 y1), (.int .i64 y2), (.int .i64 y3), (.int .i64 y4)])]) ++ [some (Blk.mk .fix [(.int .i64 z0), (.int .i64 z1), (.int .i64 z2), (.int .i64 z3), (.int .i64 z4)])])))
 (.req (((pl x0 0) == x0) && (((pl x1 0) == x1) && (((pl x2 0) == x2) && (((pl x3 0) == x3) && (((pl x4 0) == x4) && true))))) (.req true (.ret (pk .ret (fr 61 [(6, (.bool true))])) (((Hc ++ [some (Blk.mk .fix [(.int .i64 x0), (.int .i64 x1), (.int .i64 x2), (.int .i64 x3), (.int .i64 x4)])]) ++ [some (Blk.mk .fix [(.int .i64 y0), (.int .i64 y1), (.int .i64 y2), (.int .i64 y3), (.int .i64 y4)])]) ++ [some (Blk.mk .fix [(.int .i64 z0), (.int .i64 z1), (.int .i64 z2), (.int .i64 z3), (.int .i64 z4)])])))))))))))))))))))))))))))))))))))))))))))))))))))))))))))))) := by kernel_rfl

theorem plus_law {H : Heap} {s0 s1 s2 s3 s4 s5 u0 u1 u2 u3 u4 u5 w0 w1 w2 w3 w4 w5 : Value} {S U W : Tp} (hS : TpAt H s0 s1 s2 s3 s4 s5 S) (hU : TpAt H u0 u1 u2 u3 u4 u5 U) (hW : TpAt H w0 w1 w2 w3 w4 w5 W) :
    Sim Try.prog 14 [.agg ⟨[s0, s1, s2, s3, s4, s5]⟩, .agg ⟨[u0, u1, u2, u3, u4, u5]⟩, .agg ⟨[w0, w1, w2, w3, w4, w5]⟩] H fun v _ => v = .bool true := by
  refine wp_sim' mixed (Plain.ok okP gL_ok) (Plain.quiet gL_quiet) st14 ?_
  have start : (([.agg ⟨[s0, s1, s2, s3, s4, s5]⟩, .agg ⟨[u0, u1, u2, u3, u4, u5]⟩, .agg ⟨[w0, w1, w2, w3, w4, w5]⟩] : List Value) ++ List.replicate (il14.ntmps - ([.agg ⟨[s0, s1, s2, s3, s4, s5]⟩, .agg ⟨[u0, u1, u2, u3, u4, u5]⟩, .agg ⟨[w0, w1, w2, w3, w4, w5]⟩] : List Value).length) undef) =
    fr 61 [(0, (.agg ⟨[s0, s1, s2, s3, s4, s5]⟩)), (1, (.agg ⟨[u0, u1, u2, u3, u4, u5]⟩)), (2, (.agg ⟨[w0, w1, w2, w3, w4, w5]⟩))] := by kernel_rfl
  rw [start, show il14.res = [.tmp 6] from rfl, show il14.body = il14a from rfl]
  obtain ⟨H0, hH0⟩ : ∃ H0, H0 = (((H ++ [some (Blk.mk .fix [s0, s1, s2, s3, s4, s5])]) ++ [some (Blk.mk .fix [u0, u1, u2, u3, u4, u5])]) ++ [some (Blk.mk .fix [w0, w1, w2, w3, w4, w5])]) := ⟨_, rfl⟩
  have k0 : ∀ B blk, rd H B = some blk → rd H0 B = some blk := fun B blk e => by subst hH0; exact rd_old (rd_old (rd_old e))
  have bu0 : rd H0 (H ++ [some (Blk.mk .fix [s0, s1, s2, s3, s4, s5])]).length = some (Blk.mk .fix [u0, u1, u2, u3, u4, u5]) := by subst hH0; exact rd_old (rd_last rfl)
  have bw0 : rd H0 ((H ++ [some (Blk.mk .fix [s0, s1, s2, s3, s4, s5])]) ++ [some (Blk.mk .fix [u0, u1, u2, u3, u4, u5])]).length = some (Blk.mk .fix [w0, w1, w2, w3, w4, w5]) := by subst hH0; exact rd_last rfl
  obtain ⟨la, Ha, ea, ra⟩ := lines_at (hS.more k0)
  have ka := ra.sub
  obtain ⟨lb, Hb, eb, rb⟩ := lines_at ((hU.more k0).more ka)
  have kb := rb.sub
  obtain ⟨lc, Hc, ec, rc⟩ := lines_at (((hW.more k0).more ka).more kb)
  have kc := rc.sub
  have len : ∀ T, (lines T).length ≤ 1099511627776 := fun T => by rw [lines_len]; omega
  have bua := ka _ _ bu0
  have bwa := ka _ _ bw0
  have bwb := kb _ _ bwa
  have sa : ∀ {H'}, (∀ B blk, rd Hc B = some blk → rd H' B = some blk) → _ := fun {H'} k => sum_at (H := H') ((ra.rows.more fun B blk e => kc B blk (kb B blk e)).more k) (len S)
  have sb : ∀ {H'}, (∀ B blk, rd Hc B = some blk → rd H' B = some blk) → _ := fun {H'} k => sum_at (H := H') ((rb.rows.more kc).more k) (len U)
  have sc : ∀ {H'}, (∀ B blk, rd Hc B = some blk → rd H' B = some blk) → _ := fun {H'} k => sum_at (H := H') (rc.rows.more k) (len W)
  have sa0 := sum_at ra.rows (len S)
  have sb0 := sum_at rb.rows (len U)
  have sc0 := sum_at rc.rows (len W)
  have fx := fit_tot (lines S)
  have qu : eqV (.agg ⟨[u0, u1, u2, u3, u4, u5]⟩) (.agg ⟨[u0, u1, u2, u3, u4, u5]⟩) = true := by simp [eqV, eqAg, eqL, rows_eq0 hU.a0, rows_eq0 hU.a1, rows_eq0 hU.a2, rows_eq0 hU.a3, rows_eq0 hU.a4, rows_eq0 hU.a5]
  have qw : eqV (.agg ⟨[w0, w1, w2, w3, w4, w5]⟩) (.agg ⟨[w0, w1, w2, w3, w4, w5]⟩) = true := by simp [eqV, eqAg, eqL, rows_eq0 hW.a0, rows_eq0 hW.a1, rows_eq0 hW.a2, rows_eq0 hW.a3, rows_eq0 hW.a4, rows_eq0 hW.a5]
  have qi : ∀ a b c d e : Int, eqV (.agg ⟨[.int .i64 a, .int .i64 b, .int .i64 c, .int .i64 d, .int .i64 e]⟩) (.agg ⟨[.int .i64 a, .int .i64 b, .int .i64 c, .int .i64 d, .int .i64 e]⟩) = true := fun a b c d e => by simp [eqV, eqAg, eqL, Am.eq0]
  have z1 : rd H0 H.length = some (Blk.mk .fix [s0, s1, s2, s3, s4, s5]) := by subst hH0; exact rd_old (rd_old (rd_last rfl))
  generalize tot (lines S) = x at *
  generalize tot (lines U) = y at *
  generalize tot (lines W) = z at *
  refine Wp.piece 100 (hn14a s0 s1 s2 s3 s4 s5 u0 u1 u2 u3 u4 u5 w0 w1 w2 w3 w4 w5 la lb lc x.p x.q x.r x.s x.t y.p y.q y.r y.s y.t z.p z.q z.r z.s z.t H Ha Hb Hc) ?_
  rw [tree14a, ← hH0]
  obtain ⟨X, hX⟩ : ∃ X, X = Blk.mk .fix [(.int .i64 x.p), (.int .i64 x.q), (.int .i64 x.r), (.int .i64 x.s), (.int .i64 x.t)] := ⟨_, rfl⟩
  obtain ⟨Y, hY⟩ : ∃ Y, Y = Blk.mk .fix [(.int .i64 y.p), (.int .i64 y.q), (.int .i64 y.r), (.int .i64 y.s), (.int .i64 y.t)] := ⟨_, rfl⟩
  obtain ⟨Z, hZ⟩ : ∃ Z, Z = Blk.mk .fix [(.int .i64 z.p), (.int .i64 z.q), (.int .i64 z.r), (.int .i64 z.s), (.int .i64 z.t)] := ⟨_, rfl⟩
  have hfin : ∀ h', outP (fun e s h' => (e = .normal ∨ e = .ret) ∧ ∃ v, resA s h' [.tmp 6] = some v ∧ v = .bool true) (pk .ret (fr 61 [(6, (.bool true))])) h' := fun h' => outP_pk ⟨.inr rfl, _, rfl, rfl⟩
  refine ⟨ldn z1 (by simp) rfl, ?_⟩
  refine ⟨ea, ?_⟩
  refine ⟨sa0, ?_⟩
  refine ⟨ldn bua (by simp) rfl, ?_⟩
  refine ⟨eb, ?_⟩
  refine ⟨sb0, ?_⟩
  refine ⟨ldn bwb (by simp) rfl, ?_⟩
  refine ⟨ec, ?_⟩
  refine ⟨sc0, ?_⟩
  refine ⟨rfl, ?_⟩
  refine ⟨rfl, ?_⟩
  refine ⟨rfl, ?_⟩
  refine ⟨st_ (rd_old (rd_old (rd_last rfl))) (by intro q; cases q) rfl rfl (by simp) rfl (by rw [set_old (by simp), set_old (by simp), set_last (by simp)]; rfl), ?_⟩
  refine ⟨st_ (rd_old (rd_last (by simp))) (by intro q; cases q) rfl rfl (by simp) rfl (by rw [set_old (by simp), set_last (by simp)]; rfl), ?_⟩
  refine ⟨st_ (rd_last (by simp)) (by intro q; cases q) rfl rfl (by simp) rfl (by rw [set_last (by simp)]; rfl), ?_⟩
  refine ⟨⟨⟨_, sa fun B blk e => (rd_old e)⟩, qi _ _ _ _ _⟩, ?_⟩
  refine ⟨⟨⟨_, sa fun B blk e => (rd_old (rd_old e))⟩, qi _ _ _ _ _⟩, ?_⟩
  refine ⟨⟨⟨_, sa fun B blk e => (rd_old (rd_old (rd_old e)))⟩, qi _ _ _ _ _⟩, ?_⟩
  refine ⟨⟨⟨_, ldn bu0 (by simp) rfl⟩, qu⟩, ?_⟩
  refine ⟨⟨⟨_, sb fun B blk e => (rd_old e)⟩, qi _ _ _ _ _⟩, ?_⟩
  refine ⟨⟨⟨_, sb fun B blk e => (rd_old (rd_old e))⟩, qi _ _ _ _ _⟩, ?_⟩
  refine ⟨⟨⟨_, sb fun B blk e => (rd_old (rd_old (rd_old e)))⟩, qi _ _ _ _ _⟩, ?_⟩
  refine ⟨⟨⟨_, ldn bw0 (by simp) rfl⟩, qw⟩, ?_⟩
  refine ⟨⟨⟨_, ldn bwa (by simp) rfl⟩, qw⟩, ?_⟩
  refine ⟨⟨⟨_, sc fun B blk e => (rd_old e)⟩, qi _ _ _ _ _⟩, ?_⟩
  refine ⟨⟨⟨_, sc fun B blk e => (rd_old (rd_old e))⟩, qi _ _ _ _ _⟩, ?_⟩
  refine ⟨⟨⟨_, sc fun B blk e => (rd_old (rd_old (rd_old e)))⟩, qi _ _ _ _ _⟩, ?_⟩
  refine ⟨rfl, ?_⟩
  refine ⟨ldn (rd_old (rd_old (rd_last rfl))) (by simp) rfl, ?_⟩
  refine ⟨ldn (rd_old (rd_last (by simp))) (by simp) rfl, ?_⟩
  refine ⟨rfl, ?_⟩
  refine ⟨ldn (rd_old (rd_last (by simp))) (by simp) rfl, ?_⟩
  refine ⟨ldn (rd_old (rd_old (rd_last rfl))) (by simp) rfl, ?_⟩
  refine ⟨rfl, ?_⟩
  refine ⟨(by simp only [pl_comm y.p, pl_comm y.q, pl_comm y.r, pl_comm y.s, pl_comm y.t, beq_self_eq_true, Bool.and_true]), ?_⟩
  refine ⟨ldn (rd_old (rd_old (rd_last rfl))) (by simp) rfl, ?_⟩
  refine ⟨ldn (rd_old (rd_last (by simp))) (by simp) rfl, ?_⟩
  refine ⟨rfl, ?_⟩
  refine ⟨ldn (rd_last (by simp)) (by simp) rfl, ?_⟩
  refine ⟨rfl, ?_⟩
  refine ⟨ldn (rd_old (rd_old (rd_last rfl))) (by simp) rfl, ?_⟩
  refine ⟨ldn (rd_old (rd_last (by simp))) (by simp) rfl, ?_⟩
  refine ⟨ldn (rd_last (by simp)) (by simp) rfl, ?_⟩
  refine ⟨rfl, ?_⟩
  refine ⟨rfl, ?_⟩
  refine ⟨(by simp only [pl_assoc, beq_self_eq_true, Bool.and_true]), ?_⟩
  refine ⟨ldn (rd_old (rd_old (rd_last rfl))) (by simp) rfl, ?_⟩
  refine ⟨ldn (rd_old (rd_last (by simp))) (by simp) rfl, ?_⟩
  refine ⟨rfl, ?_⟩
  refine ⟨rfl, ?_⟩
  refine ⟨ldn (rd_old (rd_old (rd_last rfl))) (by simp) rfl, ?_⟩
  refine ⟨rfl, ?_⟩
  refine ⟨ldn (rd_old (rd_last (by simp))) (by simp) rfl, ?_⟩
  refine ⟨rfl, ?_⟩
  refine ⟨(by rw [cash_plus]; simp only [beq_self_eq_true]), ?_⟩
  refine ⟨ldn (rd_old (rd_old (rd_last rfl))) (by simp) rfl, ?_⟩
  refine ⟨rfl, ?_⟩
  refine ⟨ldn (rd_old (rd_old (rd_last rfl))) (by simp) rfl, ?_⟩
  refine ⟨(by rw [fx.p, fx.q, fx.r, fx.s, fx.t]; simp only [beq_self_eq_true, Bool.and_true]), ?_⟩
  refine ⟨rfl, ?_⟩
  exact hfin _
end Go.Proofs.Ytjnppjipoibbeaa.Tape
