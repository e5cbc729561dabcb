/-
  The code that a closed law reaches, as data; that it is that code; its run.
-/
import Derived.Test.YtgdojnamjkhknaaQaD1
import Derived.Test.YtgdojnamjkhknaaQaD2
import Derived.Test.YtgdojnamjkhknaaQaD3
import Derived.Test.YtgdojnamjkhknaaQaD5
import Derived.Test.YtgdojnamjkhknaaQaDe
import Derived.Test.YtgdojnamjkhknaaQaDr
import Derived.Test.YtgdojnamjkhknaaQaDu
import Derived.Test.YtgdojnamjkhknaaQaK7
import Derived.Test.YtgdojnamjkhknaaQaRd
import Derived.Test.YtgdojnamjkhknaaQaSamB
import Derived.Test.YtgdojnamjkhknaaQaIe2
import Derived.Test.YtgdojnamjkhknaaQaLnB
import Derived.KernelRfl
namespace Go.Proofs.Ytgdojnamjkhknaa.ClDealdocRuns
open Go.Am
set_option linter.all false
set_option maxRecDepth 100000
def il19 : FnIL := ⟨35, [.tmp 0], .seq (.reg [ oT 0 (.mov (.const (.bool false)))]) (.seq (.reg [ oT 7 (.call 36 []), oT 1 (.alloc zD), oN (.store (.tmp 1) (.tmp 7) 18)]) (.seq (.reg [ oT 8 (.load (.tmp 1) (some 18)), oT 9 (.call 67 [(.tmp 8)]), oT 2 (.mov (.tmp 9))]) (.seq (.seq (.reg [ oT 10 (.mov (.tmp 2)), oT 11 (.len (.tmp 10)), oT 12 (.bin .neq (.tmp 11) (kI 280))]) (.ite (.tmp 12) (.seq (.reg [ oT 0 (.mov (.const (.bool false)))]) (.ret)) (.skip))) (.seq (.reg [ oT 14 (.mov (.tmp 2)), oT 15 (.call 68 [(.tmp 14)]), oT 13 (.mov (.tmp 15)), oT 16 (.ext 0 (.tmp 13)), oT 17 (.ext 1 (.tmp 13)), oT 3 (.alloc zD), oN (.store (.tmp 3) (.tmp 16) 18), oT 4 (.mov (.tmp 17))]) (.seq (.reg [ oT 19 (.mov (.tmp 2)), oT 20 (.slice 1 (.tmp 19) (some (kI 1)) none none), oT 21 (.call 68 [(.tmp 20)]), oT 18 (.mov (.tmp 21)), oT 22 (.ext 0 (.tmp 18)), oT 23 (.ext 1 (.tmp 18)), oT 5 (.alloc zD), oN (.store (.tmp 5) (.tmp 22) 18), oT 6 (.mov (.tmp 23))]) (.seq (.reg [ oT 24 (.mov (.tmp 4)), oT 25 (.bin .eql (.tmp 24) (kI 0)), oT 26 (.mov (.tmp 25)), ⟨(some 27), (some (26, true)), .load (.tmp 3) (some 18)⟩, ⟨(some 28), (some (26, true)), .load (.tmp 1) (some 18)⟩, ⟨(some 29), (some (26, true)), .call 44 [(.tmp 27), (.tmp 28)]⟩, oT 30 (.pick (.tmp 26) (.tmp 29) (.const (.bool false))), oT 31 (.mov (.tmp 30)), ⟨(some 32), (some (31, true)), .mov (.tmp 6)⟩, ⟨(some 33), (some (31, true)), .bin .eql (.tmp 32) (kI 1)⟩, oT 34 (.pick (.tmp 31) (.tmp 33) (.const (.bool false))), oT 0 (.mov (.tmp 34))]) (.ret)))))))⟩
theorem st19 : stF Try.prog [] 19 = some il19 := by kernel_rfl
def il36 : FnIL := ⟨20, [.cell 0 (some 18)], .seq (.reg [ oT 0 (.alloc zD)]) (.seq (.reg [ oT 2 (.build [(.int .i64 0), (.int .i64 0)] [(0, 1, (kI 3))]), oT 3 (.build [(.int .i64 0), (.int .i64 0)] [(0, 1, (kI 7))]), oT 4 (.mkrow [(.int .i64 0), (.int .i64 0), (.int .i64 0), (.int .i64 0)] 2 [(0, 2, (.tmp 2)), (2, 2, (.tmp 3))]), oT 1 (.mov (.tmp 4))]) (.seq (.reg [ oT 5 (.build [(.int .i64 0), (.int .i64 0)] [(0, 1, (kI 1)), (1, 1, (kI 100))]), oT 6 (.mkrow [(.int .i64 0), (.int .i64 0)] 1 [(0, 2, (.tmp 5))]), oT 7 (.build [(.int .i64 0), (.int .i64 0), (.int .i64 0)] [(1, 1, (kI 100))]), oT 8 (.mkrow [(.int .i64 0), (.int .i64 0), (.int .i64 0)] 1 [(0, 3, (.tmp 7))]), oT 9 (.mkrow [] 0 []), oT 10 (.mov (.tmp 1)), oT 11 (.append 2 16 (.tmp 9) (.tmp 10)), oT 12 (.mkrow [] 0 []), oT 13 (.mov (.tmp 1)), oT 14 (.append 2 16 (.tmp 12) (.tmp 13)), oT 15 (.mkrow [] 0 []), oT 16 (.mov (.tmp 1)), oT 17 (.append 2 16 (.tmp 15) (.tmp 16)), oT 18 (.build [(.slice none 0 0), (.slice none 0 0), (.slice none 0 0)] [(0, 1, (.tmp 11)), (1, 1, (.tmp 14)), (2, 1, (.tmp 17))]), oT 19 (.build zD [(0, 1, (kI 2024)), (1, 1, (kI 1)), (3, 1, (.tmp 6)), (4, 1, (.tmp 8)), (15, 3, (.tmp 18))]), oN (.store (.tmp 0) (.tmp 19) 18)]) (.ret)))⟩
theorem st36 : stF Try.prog [] 36 = some il36 := by kernel_rfl
def tab : Tab := [(19, il19), (36, il36), (67, DE.E67.il67), (37, Go.Proofs.Ytgdojnamjkhknaa.D.U.il37), (73, Go.Proofs.Ytgdojnamjkhknaa.D.U.il73), (94, Go.Proofs.Ytgdojnamjkhknaa.D.A.il94), (74, Go.Proofs.Ytgdojnamjkhknaa.D.W74.il74), (95, Go.Proofs.Ytgdojnamjkhknaa.D.il95), (96, Go.Proofs.Ytgdojnamjkhknaa.D.T.il96), (40, Go.Proofs.Ytgdojnamjkhknaa.D.S.il40), (75, Go.Proofs.Ytgdojnamjkhknaa.D.C.il75), (97, Go.Proofs.Ytgdojnamjkhknaa.D.C.il97), (68, Go.Proofs.Ytgdojnamjkhknaa.DU.il68), (24, Go.Proofs.Ytgdojnamjkhknaa.RD.R.il24), (70, Go.Proofs.Ytgdojnamjkhknaa.RD.R.il70), (92, Go.Proofs.Ytgdojnamjkhknaa.DR.il92), (29, Go.Proofs.Ytgdojnamjkhknaa.RD.N.il29), (25, Go.Proofs.Ytgdojnamjkhknaa.RD.M.il25), (28, Go.Proofs.Ytgdojnamjkhknaa.RD.N.il28), (44, Go.Proofs.Ytgdojnamjkhknaa.K.E2.il44), (81, Go.Proofs.Ytgdojnamjkhknaa.S81.il81), (82, Go.Proofs.Ytgdojnamjkhknaa.S82.il82), (83, Go.Proofs.Ytgdojnamjkhknaa.S83.il83)]
theorem tabOk : TabOk Try.prog [] tab := .cons st19 (.cons st36 (.cons DE.E67.st67 (.cons Go.Proofs.Ytgdojnamjkhknaa.D.U.st37 (.cons Go.Proofs.Ytgdojnamjkhknaa.D.U.st73 (.cons Go.Proofs.Ytgdojnamjkhknaa.D.A.st94 (.cons Go.Proofs.Ytgdojnamjkhknaa.D.W74.st74 (.cons Go.Proofs.Ytgdojnamjkhknaa.D.st95 (.cons Go.Proofs.Ytgdojnamjkhknaa.D.T.st96 (.cons Go.Proofs.Ytgdojnamjkhknaa.D.S.st40 (.cons Go.Proofs.Ytgdojnamjkhknaa.D.C.st75 (.cons Go.Proofs.Ytgdojnamjkhknaa.D.C.st97 (.cons Go.Proofs.Ytgdojnamjkhknaa.DU.st68 (.cons Go.Proofs.Ytgdojnamjkhknaa.RD.R.st24 (.cons Go.Proofs.Ytgdojnamjkhknaa.RD.R.st70 (.cons Go.Proofs.Ytgdojnamjkhknaa.DR.st92 (.cons Go.Proofs.Ytgdojnamjkhknaa.RD.N.st29 (.cons Go.Proofs.Ytgdojnamjkhknaa.RD.M.st25 (.cons Go.Proofs.Ytgdojnamjkhknaa.RD.N.st28 (.cons Go.Proofs.Ytgdojnamjkhknaa.K.E2.st44 (.cons Go.Proofs.Ytgdojnamjkhknaa.S81.st81 (.cons Go.Proofs.Ytgdojnamjkhknaa.S82.st82 (.cons Go.Proofs.Ytgdojnamjkhknaa.S83.st83 (.nil)))))))))))))))))))))))
theorem run : fnG WJ.cEnv tab 10000 20 19 [] [] = some (.bool true, []) := by kernel_rfl
theorem sim : Sim Try.prog 19 [] [] fun v h => v = .bool true ∧ h = [] := fnG_ok (by kernel_rfl) tabOk WJ.cEnv_ok 10000 20 19 [] [] _ _ run
end Go.Proofs.Ytgdojnamjkhknaa.ClDealdocRuns
