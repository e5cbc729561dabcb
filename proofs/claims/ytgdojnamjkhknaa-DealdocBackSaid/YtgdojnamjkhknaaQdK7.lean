/-
  keep: two deals that are the same.
-/
import Derived.Test.YtgdojnamjkhknaaQdD5
import Derived.Test.YtgdojnamjkhknaaQdSamB
namespace Go.Proofs.Ytgdojnamjkhknaa
open Go.Am
set_option linter.all false
set_option maxRecDepth 100000
namespace K
open D (DV DlW dVal)
namespace E2
noncomputable def gK : Env := fun f => match f with
 | 81 => smry (preSame 2 e2) resSame
 | 82 => smry (preSame 2 e2) resSame
 | 83 => smry (preSame 3 e3) resSame
 | _ => fun _ _ => none
theorem gK_ok : EnvOk Try.prog gK := fun f => by
 unfold gK
 split
 ·exact S81.sim
 ·exact S82.sim
 ·exact S83.sim
 ·exact fun args h v h' e => by cases e
theorem gK_q : QuietEnv qt gK := fun f args h v h' hf e => by cases hf
noncomputable abbrev gE (k : Nat) : Env := inE [] [] k gK
noncomputable abbrev cE (k : Nat) : CallS := callS [] [] gK 100 k
theorem gE_q (k : Nat) : QuietEnv qt (Plain.env [] (gE k)) := Plain.quiet (inE_quiet gK_q (fun f F h => by cases h) k)
theorem gE_ok (k : Nat) : EnvOk Try.prog (Plain.env [] (gE k)) := Plain.ok .nil (inE_ok (qt := qt) mixed .nil .nil (fun f F h => by cases h) gK_ok gK_q k)
theorem cE_ok (k : Nat) : CallOk (Plain.env [] (gE k)) (cE k) := callS_ok k
def il44 : FnIL := ⟨95, [.tmp 4], .seq (.reg [ oT 2 (.box (.tmp 0)), oT 3 (.box (.tmp 1)), oT 4 (.mov (.const (.bool false)))]) (.seq (.seq (.reg [ oT 6 (.mov (kI 0))]) (.block 0 (.loop (.seq (.reg [ oT 7 (.bin .lss (.tmp 6) (kI 3))]) (.seq (.ite (.tmp 7) (.skip) (.exit 0)) (.seq (.block 1 (.seq (.reg [ oT 8 (.mov (.tmp 6)), oT 5 (.mov (.tmp 8))]) (.seq (.dreg [ oT 9 (.mov (.tmp 5)), oT 10 (.fadr 15 (.tmp 2)), oT 11 (.iadr 1 (some 3) (.tmp 10) (.tmp 9)), oT 12 (.load (.tmp 11) none), oT 13 (.mov (.tmp 5)), oT 14 (.fadr 15 (.tmp 3)), oT 15 (.iadr 1 (some 3) (.tmp 14) (.tmp 13)), oT 16 (.load (.tmp 15) none), oT 17 (.call 81 [(.tmp 12), (.tmp 16)]), oT 18 (.un .not (.tmp 17))] []) (.ite (.tmp 18) (.seq (.reg [ oT 4 (.mov (.const (.bool false)))]) (.ret)) (.skip))))) (.reg [ oT 19 (.bin .add (.tmp 6) (kI 1)), oT 6 (.mov (.tmp 19))]))))))) (.seq (.reg [ oT 20 (.fadr 0 (.tmp 2)), oT 21 (.load (.tmp 20) none), oT 22 (.fadr 0 (.tmp 3)), oT 23 (.load (.tmp 22) none), oT 24 (.bin .eql (.tmp 21) (.tmp 23)), oT 25 (.mov (.tmp 24)), ⟨(some 26), (some (25, true)), .fadr 1 (.tmp 2)⟩, ⟨(some 27), (some (25, true)), .load (.tmp 26) none⟩, ⟨(some 28), (some (25, true)), .fadr 1 (.tmp 3)⟩, ⟨(some 29), (some (25, true)), .load (.tmp 28) none⟩, ⟨(some 30), (some (25, true)), .bin .eql (.tmp 27) (.tmp 29)⟩, oT 31 (.pick (.tmp 25) (.tmp 30) (.const (.bool false))), oT 32 (.mov (.tmp 31)), ⟨(some 33), (some (32, true)), .fadr 2 (.tmp 2)⟩, ⟨(some 34), (some (32, true)), .load (.tmp 33) none⟩, ⟨(some 35), (some (32, true)), .fadr 2 (.tmp 3)⟩, ⟨(some 36), (some (32, true)), .load (.tmp 35) none⟩, ⟨(some 37), (some (32, true)), .bin .eql (.tmp 34) (.tmp 36)⟩, oT 38 (.pick (.tmp 32) (.tmp 37) (.const (.bool false))), oT 39 (.mov (.tmp 38)), ⟨(some 40), (some (39, true)), .fadr 5 (.tmp 2)⟩, ⟨(some 41), (some (39, true)), .load (.tmp 40) none⟩, ⟨(some 42), (some (39, true)), .fadr 5 (.tmp 3)⟩, ⟨(some 43), (some (39, true)), .load (.tmp 42) none⟩, ⟨(some 44), (some (39, true)), .bin .eql (.tmp 41) (.tmp 43)⟩, oT 45 (.pick (.tmp 39) (.tmp 44) (.const (.bool false))), oT 46 (.mov (.tmp 45)), ⟨(some 47), (some (46, true)), .fadr 6 (.tmp 2)⟩, ⟨(some 48), (some (46, true)), .load (.tmp 47) none⟩, ⟨(some 49), (some (46, true)), .fadr 6 (.tmp 3)⟩, ⟨(some 50), (some (46, true)), .load (.tmp 49) none⟩, ⟨(some 51), (some (46, true)), .bin .eql (.tmp 48) (.tmp 50)⟩, oT 52 (.pick (.tmp 46) (.tmp 51) (.const (.bool false))), oT 53 (.mov (.tmp 52)), ⟨(some 54), (some (53, true)), .fadr 7 (.tmp 2)⟩, ⟨(some 55), (some (53, true)), .load (.tmp 54) none⟩, ⟨(some 56), (some (53, true)), .fadr 7 (.tmp 3)⟩, ⟨(some 57), (some (53, true)), .load (.tmp 56) none⟩, ⟨(some 58), (some (53, true)), .bin .eql (.tmp 55) (.tmp 57)⟩, oT 59 (.pick (.tmp 53) (.tmp 58) (.const (.bool false))), oT 60 (.mov (.tmp 59)), ⟨(some 61), (some (60, true)), .fadr 8 (.tmp 2)⟩, ⟨(some 62), (some (60, true)), .load (.tmp 61) none⟩, ⟨(some 63), (some (60, true)), .fadr 8 (.tmp 3)⟩, ⟨(some 64), (some (60, true)), .load (.tmp 63) none⟩, ⟨(some 65), (some (60, true)), .bin .eql (.tmp 62) (.tmp 64)⟩, oT 66 (.pick (.tmp 60) (.tmp 65) (.const (.bool false))), oT 67 (.mov (.tmp 66)), ⟨(some 68), (some (67, true)), .fadr 9 (.tmp 2)⟩, ⟨(some 69), (some (67, true)), .load (.tmp 68) none⟩, ⟨(some 70), (some (67, true)), .fadr 9 (.tmp 3)⟩, ⟨(some 71), (some (67, true)), .load (.tmp 70) none⟩, ⟨(some 72), (some (67, true)), .bin .eql (.tmp 69) (.tmp 71)⟩, oT 73 (.pick (.tmp 67) (.tmp 72) (.const (.bool false))), oT 74 (.mov (.tmp 73)), ⟨(some 75), (some (74, true)), .fadr 10 (.tmp 2)⟩, ⟨(some 76), (some (74, true)), .load (.tmp 75) (some 5)⟩, ⟨(some 77), (some (74, true)), .fadr 10 (.tmp 3)⟩, ⟨(some 78), (some (74, true)), .load (.tmp 77) (some 5)⟩, ⟨(some 79), (some (74, true)), .eqv false (.cells [false, false, false, false, false]) (.tmp 76) (.tmp 78)⟩, oT 80 (.pick (.tmp 74) (.tmp 79) (.const (.bool false))), oT 81 (.mov (.tmp 80)), ⟨(some 82), (some (81, true)), .fadr 3 (.tmp 2)⟩, ⟨(some 83), (some (81, true)), .load (.tmp 82) none⟩, ⟨(some 84), (some (81, true)), .fadr 3 (.tmp 3)⟩, ⟨(some 85), (some (81, true)), .load (.tmp 84) none⟩, ⟨(some 86), (some (81, true)), .call 82 [(.tmp 83), (.tmp 85)]⟩, oT 87 (.pick (.tmp 81) (.tmp 86) (.const (.bool false))), oT 88 (.mov (.tmp 87)), ⟨(some 89), (some (88, true)), .fadr 4 (.tmp 2)⟩, ⟨(some 90), (some (88, true)), .load (.tmp 89) none⟩, ⟨(some 91), (some (88, true)), .fadr 4 (.tmp 3)⟩, ⟨(some 92), (some (88, true)), .load (.tmp 91) none⟩, ⟨(some 93), (some (88, true)), .call 83 [(.tmp 90), (.tmp 92)]⟩, oT 94 (.pick (.tmp 88) (.tmp 93) (.const (.bool false))), oT 4 (.mov (.tmp 94))]) (.ret)))⟩
theorem st44 : stF Try.prog qt 44 = some il44 := by kernel_rfl
end E2
open E2
end K
end Go.Proofs.Ytgdojnamjkhknaa
