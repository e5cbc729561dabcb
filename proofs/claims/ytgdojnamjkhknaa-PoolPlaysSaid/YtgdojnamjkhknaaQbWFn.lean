/-
  word: the bytes of whole numbers.
-/
import Derived.Test.YtgdojnamjkhknaaProg
import Derived.Test.YtgdojnamjkhknaaQbLcA
import Derived.KernelRfl
namespace Go.Proofs.Ytgdojnamjkhknaa
open Go.Am
set_option linter.all false
set_option maxRecDepth 100000
theorem mixed : Try.prog.follows .mixedOrders = true := by kernel_rfl
abbrev qt : List Nat := []
namespace WB
noncomputable abbrev gE (k : Nat) : Env := inE [] [] k noEnv
noncomputable abbrev cE (k : Nat) : CallS := callS [] [] noEnv 100 k
theorem gE_q (k : Nat) : QuietEnv qt (Plain.env [] (gE k)) := Plain.quiet (inE_quiet noEnv_quiet (fun f F h => by cases h) k)
theorem gE_ok (k : Nat) : EnvOk Try.prog (Plain.env [] (gE k)) := Plain.ok .nil (inE_ok (qt := qt) mixed .nil .nil (fun f F h => by cases h) noEnv_ok noEnv_quiet k)
theorem cE_ok (k : Nat) : CallOk (Plain.env [] (gE k)) (cE k) := callS_ok k
theorem take_one {α : Type} {l : List α} {k : Nat} {x : α} (h : l[k]? = some x) : l.take (k + 1) = l.take k ++ [x] := by rw [List.take_succ, h]; rfl
end WB
end Go.Proofs.Ytgdojnamjkhknaa
