/-
  deal: what its loans are, what its notes are, which steps may be a mode's.
-/
import Derived.Test.YtgdojnamjkhknaaQbWFn
namespace Go.Proofs.Ytgdojnamjkhknaa
open Go.Am
set_option linter.all false
set_option maxRecDepth 100000
namespace D
def wB (x lo hi : Int) : Bool := decide (lo ≤ x ∧ x ≤ hi)
def sWi : List Value → Option (Bool × Value)
 | [.int .i64 x, .int .i64 lo, .int .i64 hi] => some (true, .bool (wB x lo hi))
 | _ => none
namespace W74
open WB (gE cE gE_ok gE_q cE_ok)
def il74 : FnIL := ⟨15, [.tmp 6], .seq (.reg [ oT 6 (.mov (.const (.bool false)))]) (.seq (.reg [ oT 7 (.mov (.tmp 0)), oT 8 (.mov (.tmp 1)), oT 9 (.bin .geq (.tmp 7) (.tmp 8)), oT 10 (.mov (.tmp 9)), ⟨(some 11), (some (10, true)), .mov (.tmp 0)⟩, ⟨(some 12), (some (10, true)), .mov (.tmp 2)⟩, ⟨(some 13), (some (10, true)), .bin .leq (.tmp 11) (.tmp 12)⟩, oT 14 (.pick (.tmp 10) (.tmp 13) (.const (.bool false))), oT 6 (.mov (.tmp 14))]) (.ret))⟩
theorem st74 : stF Try.prog qt 74 = some il74 := by kernel_rfl
def hn74 (x lo hi : Int) : Hs := (.join 4 (.con (.con (.con (.con .nil)))) (.con (.con (.con (.con .nil)))) .nil)
theorem tree74 (x lo hi : Int) : fnS [] (gE 0) (cE 0) 100 il74 (hn74 x lo hi) [(sI x), (sI lo), (sI hi)] [] =
(.req (bif (decide (x ≥ lo)) then true else true) (.ret .ret [(sB (bif (decide (x ≥ lo)) then (decide (x ≤ hi)) else false))] [])) := by kernel_rfl
end W74
open W74 (st74 tree74 il74)
theorem sWi_ok (args : List Value) (v : Value) (e : sWi args = some (true, v)) : args.all (belowV 0) = true ∧ belowV 0 v = true ∧ Sim Try.prog 74 args [] fun v1 _ => v1 = v := by
 unfold sWi at e
 split at e
 ·rename_i x lo hi
  cases e
  refine ⟨rfl, rfl, ?_⟩
  have := fnS_tree (Q := fun v _ => v = .bool (wB x lo hi)) mixed (WB.gE_ok 0) (WB.gE_q 0) (WB.cE_ok 0) st74 (tree74 x lo hi) ⟨rfl, rfl⟩ (by
   have key : (bif (decide (x ≥ lo)) then (decide (x ≤ hi)) else false) = wB x lo hi := by
    unfold wB
    by_cases h1 : lo ≤ x <;> by_cases h2 : x ≤ hi <;> simp [h1, h2]
   exact ⟨by cases (decide (x ≥ lo)) <;> rfl, congrArg Value.bool key⟩)
  simpa [denH, denL, denF, denV, denA, den0] using this
 ·cases e
def tblD : Plain := [(74, sWi)]
theorem tblD_ok : PlainOk Try.prog tblD := .cons sWi_ok .nil
namespace A
noncomputable abbrev gE (k : Nat) : Env := inE tblD [] k noEnv
noncomputable abbrev cE (k : Nat) : CallS := callS tblD [] noEnv 100 k
theorem gE_q (k : Nat) : QuietEnv qt (Plain.env tblD (gE k)) := Plain.quiet (inE_quiet noEnv_quiet (fun f F h => by cases h) k)
theorem gE_ok (k : Nat) : EnvOk Try.prog (Plain.env tblD (gE k)) := Plain.ok tblD_ok (inE_ok (qt := qt) mixed tblD_ok .nil (fun f F h => by cases h) noEnv_ok noEnv_quiet k)
theorem cE_ok (k : Nat) : CallOk (Plain.env tblD (gE k)) (cE k) := callS_ok k
end A
end D
end Go.Proofs.Ytgdojnamjkhknaa
