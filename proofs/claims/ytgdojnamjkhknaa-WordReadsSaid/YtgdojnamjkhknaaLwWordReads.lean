/-
  The law WordReads answers true, whatever its arguments. No conditions.
-/
import Derived.Test.YtgdojnamjkhknaaRows
import Derived.Test.YtgdojnamjkhknaaWRd
import Derived.Test.YtgdojnamjkhknaaLc4
import Derived.Carry
import Derived.WalkKit
import Derived.ProofKit
import Derived.OpenShut
import Derived.ShutString
import Derived.ChangeOld
import Derived.Below
import Derived.SizedLaws
namespace Go.Proofs.Ytgdojnamjkhknaa.wordReads
open Go.ChangeShapes Go.WideShapes Go.ChangeAt Go.RowKit Go.Am
set_option linter.all false
theorem laid : laidOutB Try.prog = true := by kernel_rfl
theorem ag26 : isAg Try.prog 26 = false := by kernel_rfl
abbrev spec : List (Bool × List LT) := [(false, [.s 1 [.i .i64]]), (false, [.s 1 [.i .i64]])]
theorem sim : ∀ H xs, F2 (fun p a => ArgOk H p.1 p.2 a) spec xs → Sim Try.prog 4 xs H fun v _ => v = .bool true := WR.lawA
theorem own : ownKnob Try.prog.godebug = none := by kernel_rfl
set_option maxRecDepth 100000 in
theorem lifted (os : Os) (started : os.Started) (H : Type) (enc : TypeId × Value → H) :
    ReturnsInHanded {} Try.checked os 4 .any (Rows.wordReadsSpec.pre6 enc Try.prog Try.f4 Rows.wordReadsRow.domain false) (Rows.wordReadsSpec.post enc Try.prog Try.f4 false true false false) := by
  refine returnsInHanded_of_change (C := Try.checked) own started (by kernel_rfl) Try.func4
    (ChangeSpec.witness6 (enc := enc) (C := Try.checked) false ⟨#[], #[.slice none 0 0, .slice none 0 0], []⟩ 8 (by kernel_rfl) (by kernel_rfl) (by kernel_rfl) (by kernel_rfl)) ?_
  intro W base args ds gs before hval0 hW hcnd _
  have hval : ∀ (j : Nat) t v, Try.f4.params[j]? = some t → args[j]? = some v → Value.okWide Try.prog W .any base t v := hval0
  have hW' := hW
  obtain ⟨p, q, hA0, hV, rfl, hfz, hnd⟩ := hW
  have hA : DataW.TrodAll enc Try.prog W 0 (fun _ => true) true Try.f4.params.toList args.toList ds p := hA0
  rw [Try.params4] at hA hval
  obtain ⟨v0, vs0, d0, ds0, p0, q0, hargs, rfl, rfl, h0, r0⟩ := trodAll_cons hA
  obtain ⟨v1, vs1, d1, ds1, p1, q1, rfl, rfl, rfl, h1, r1⟩ := trodAll_cons r0
  obtain ⟨rfl, rfl, rfl⟩ := trodAll_nil r1
  obtain rfl : args = #[v0, v1] := by cases args; simp_all
  obtain ⟨rfl, rfl⟩ := trodVars_none hV
  clear hA0 hval0
  simp only [List.append_nil] at hW'
  have ops : F2 (fun p v => OpA W p.1 p.2 v) spec [v0, v1] := (.cons (open_argB (P := Try.prog) ag26 (n := 20) (t := 26) (ks := [.s 1 [.i .i64]]) (by kernel_rfl) (hval 0 26 v0 rfl rfl) h0) (.cons (open_argB (P := Try.prog) ag26 (n := 20) (t := 26) (ks := [.s 1 [.i .i64]]) (by kernel_rfl) (hval 1 26 v1 rfl rfl) h1) .nil))
  refine (law_of sim ops).mono fun e W' ⟨he, bel⟩ => ?_
  subst he
  exact ⟨_, rfl, _, _, _, [], _, [], hW', trodAll_mk1 (shut_bool Try.underlying4 _), (trodAll_cons_mk (Below.trod laid (by kernel_rfl) (of_decide_eq_true (by kernel_rfl)) h0 bel fun x hx => hW'.lt x (by simp [hx])) (trodAll_cons_mk (Below.trod laid (by kernel_rfl) (of_decide_eq_true (by kernel_rfl)) h1 bel fun x hx => hW'.lt x (by simp [hx])) trodAll_mk0)), rfl, bel.frame _, fun h => by cases h⟩
theorem over : Rows.wordReadsRow.holds Try.pinned (OpenSpec.ofChange Rows.wordReadsSpec) :=
  OpenClaim.holds_of_wide 4 Try.f4 rfl rfl rfl rfl rfl rfl rfl ⟨rfl, rfl, rfl, rfl, rfl⟩ rfl rfl rfl rfl rfl (by kernel_rfl) Try.func4 (by kernel_rfl)
    (of_decide_eq_true (by kernel_rfl)) (by unfold Func.isWrapper; first | (rw [if_pos (by decide +kernel)]; kernel_rfl) | (rw [if_neg (by decide +kernel)]; exact ⟨rfl, rfl⟩))
    (fun os started H enc _ => lifted os started H enc)
theorem proved : Rows.WordReadsSaid := over
end Go.Proofs.Ytgdojnamjkhknaa.wordReads
namespace Go.Proofs.Ytgdojnamjkhknaa
/-- The row, under a short name, for the claim. -/
theorem wordReads_holds : Rows.WordReadsSaid := wordReads.proved
end Go.Proofs.Ytgdojnamjkhknaa
