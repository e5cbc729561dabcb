/-
  DealTurned: what it calls.
-/
import Derived.Test.YtgdojnamjkhknaaLa0
import Derived.Test.YtgdojnamjkhknaaK7
namespace Go.Proofs.Ytgdojnamjkhknaa
open Go.Am
set_option linter.all false
set_option maxRecDepth 100000
namespace L
theorem r2_w9 (l : List R2) : ∀ r ∈ l.map e2, r.length = 2 := fun r hr => by
  obtain ⟨x, _, rfl⟩ := List.mem_map.1 hr; rfl
namespace T
/-- cascade/deal.Copy -/
def il43 : FnIL := ⟨26, [.cell 2 (some 18)], .seq (.reg [ oT 1 (.box (.tmp 0)), oT 2 (.alloc [(.int .i64 0), (.int .i64 0), (.int .i64 0), (.slice none 0 0), (.slice none 0 0), (.int .i64 0), (.int .i64 0), (.int .i64 0), (.int .i64 0), (.int .i64 0), (.int .i64 0), (.int .i64 0), (.int .i64 0), (.int .i64 0), (.int .i64 0), (.slice none 0 0), (.slice none 0 0), (.slice none 0 0)])]) (.seq (.reg [ oT 5 (.fadr 3 (.tmp 1)), oT 6 (.load (.tmp 5) none), oT 7 (.call 78 [(.tmp 6)]), oT 8 (.fadr 3 (.tmp 1)), oN (.store (.tmp 8) (.tmp 7) 1)]) (.seq (.reg [ oT 9 (.fadr 4 (.tmp 1)), oT 10 (.load (.tmp 9) none), oT 11 (.call 79 [(.tmp 10)]), oT 12 (.fadr 4 (.tmp 1)), oN (.store (.tmp 12) (.tmp 11) 1)]) (.seq (.seq (.reg [ oT 13 (.fadr 15 (.tmp 1)), oT 14 (.load (.tmp 13) (some 3)), oT 15 (.mov (kI 0))]) (.block 0 (.loop (.seq (.reg [ oT 16 (.bin .lss (.tmp 15) (kI 3))]) (.seq (.ite (.tmp 16) (.skip) (.exit 0)) (.seq (.block 1 (.seq (.reg [ oT 17 (.mov (.tmp 15)), oT 18 (.idx 1 3 none (.tmp 14) (.tmp 15)), oT 3 (.mov (.tmp 17)), oT 4 (.mov (.tmp 18))]) (.reg [ oT 19 (.mov (.tmp 3)), oT 20 (.mov (.tmp 4)), oT 21 (.call 80 [(.tmp 20)]), oT 22 (.fadr 15 (.tmp 1)), oT 23 (.iadr 1 (some 3) (.tmp 22) (.tmp 19)), oN (.store (.tmp 23) (.tmp 21) 1)]))) (.reg [ oT 24 (.bin .add (.tmp 15) (kI 1)), oT 15 (.mov (.tmp 24))]))))))) (.seq (.reg [ oT 25 (.load (.tmp 1) (some 18)), oN (.store (.tmp 2) (.tmp 25) 18)]) (.ret)))))⟩
theorem st43 : stF Try.prog qt 43 = some il43 := by kernel_rfl
/-- slices.Clone[[]cascade/api.Loan,cascade/api.Loan] -/
def il78 : FnIL := ⟨8, [.tmp 2], .seq (.reg [ oT 2 (.mov (.const (.slice none 0 0)))]) (.seq (.seq (.reg [ oT 3 (.mov (.tmp 0)), oT 4 (.eqv false .slc (.tmp 3) (.const (.slice none 0 0)))]) (.ite (.tmp 4) (.seq (.reg [ oT 2 (.mov (.const (.slice none 0 0)))]) (.ret)) (.skip))) (.seq (.reg [ oT 5 (.mkrow [] 0 []), oT 6 (.mov (.tmp 0)), oT 7 (.append 2 16 (.tmp 5) (.tmp 6)), oT 2 (.mov (.tmp 7))]) (.ret)))⟩
theorem st78 : stF Try.prog qt 78 = some il78 := by kernel_rfl
/-- slices.Clone[[]cascade/api.Terms,cascade/api.Terms] -/
def il79 : FnIL := ⟨8, [.tmp 2], .seq (.reg [ oT 2 (.mov (.const (.slice none 0 0)))]) (.seq (.seq (.reg [ oT 3 (.mov (.tmp 0)), oT 4 (.eqv false .slc (.tmp 3) (.const (.slice none 0 0)))]) (.ite (.tmp 4) (.seq (.reg [ oT 2 (.mov (.const (.slice none 0 0)))]) (.ret)) (.skip))) (.seq (.reg [ oT 5 (.mkrow [] 0 []), oT 6 (.mov (.tmp 0)), oT 7 (.append 3 24 (.tmp 5) (.tmp 6)), oT 2 (.mov (.tmp 7))]) (.ret)))⟩
theorem st79 : stF Try.prog qt 79 = some il79 := by kernel_rfl
/-- slices.Clone[[]cascade/api.Step,cascade/api.Step] -/
def il80 : FnIL := ⟨8, [.tmp 2], .seq (.reg [ oT 2 (.mov (.const (.slice none 0 0)))]) (.seq (.seq (.reg [ oT 3 (.mov (.tmp 0)), oT 4 (.eqv false .slc (.tmp 3) (.const (.slice none 0 0)))]) (.ite (.tmp 4) (.seq (.reg [ oT 2 (.mov (.const (.slice none 0 0)))]) (.ret)) (.skip))) (.seq (.reg [ oT 5 (.mkrow [] 0 []), oT 6 (.mov (.tmp 0)), oT 7 (.append 2 16 (.tmp 5) (.tmp 6)), oT 2 (.mov (.tmp 7))]) (.ret)))⟩
theorem st80 : stF Try.prog qt 80 = some il80 := by kernel_rfl
noncomputable def gK2 : Env := fun f => match f with
  | 44 => smry K.pre44 fun _ h => (.bool true, h)
  | f => gK f
theorem gK2_ok : EnvOk Try.prog gK2 := fun f => by
  unfold gK2
  split
  · exact K.sim44
  · exact gK_ok _
theorem gK2_q : QuietEnv qt gK2 := fun f args h v h' hf e => by cases hf
def inl : Tab := [(43, il43), (78, il78), (79, il79), (80, il80)]
theorem noq : noQt qt inl := fun f F h => rfl
theorem inl_ok : TabOk Try.prog qt inl := .cons st43 (.cons st78 (.cons st79 (.cons st80 .nil)))
noncomputable abbrev gF (k : Nat) : Env := inE tblL inl k gK2
noncomputable abbrev cF (k : Nat) : CallS := callS tblL inl gK2 400 k
theorem gF_q (k : Nat) : QuietEnv qt (Plain.env tblL (gF k)) := Plain.quiet (inE_quiet gK2_q noq k)
theorem gF_ok (k : Nat) : EnvOk Try.prog (Plain.env tblL (gF k)) := Plain.ok tblL_ok (inE_ok (qt := qt) mixed tblL_ok inl_ok noq gK2_ok gK2_q k)
theorem cF_ok (k : Nat) : CallOk (Plain.env tblL (gF k)) (cF k) := callS_ok k
noncomputable abbrev gE (k : Nat) : Env := gF (k + 2)
noncomputable abbrev cE (k : Nat) : CallS := cF (k + 2)
theorem cE_ok (k : Nat) : CallOk (Plain.env tblL (gE k)) (cE k) := cF_ok (k + 2)
end T
end L
end Go.Proofs.Ytgdojnamjkhknaa
