/-
  The law TapedocRuns answers true, at every world, and leaves alone what was there. No conditions.
-/
import Derived.Test.YtgdojnamjkhknaaRows
import Derived.Test.YtgdojnamjkhknaaClTapedocRuns
import Derived.Test.YtgdojnamjkhknaaLcA
import Derived.WalkKit
import Derived.ProofKit
import Derived.OpenShut
import Derived.ShutString
import Derived.ChangeOld
import Derived.Below
import Derived.SizedLaws
namespace Go.Proofs.Ytgdojnamjkhknaa.tapedocRuns
open Go.ChangeShapes Go.WideShapes Go.ChangeAt Go.RowKit Go.Am
open Go.ChangeMaps (open_string shut_string)
set_option linter.all false
theorem own : ownKnob Try.prog.godebug = none := by kernel_rfl
set_option maxRecDepth 100000 in
theorem lifted (os : Os) (started : os.Started) (H : Type) (enc : TypeId × Value → H) :
    ReturnsInHanded {} Try.checked os 15 .any (Rows.tapedocRunsSpec.pre6 enc Try.prog Try.f15 Rows.tapedocRunsRow.domain false) (Rows.tapedocRunsSpec.post enc Try.prog Try.f15 false true false false) := by
  refine returnsInHanded_of_change_sized (C := Try.checked) own started (by kernel_rfl) Try.func15
    (ChangeSpec.witness6 (enc := enc) (C := Try.checked) false ⟨#[], #[], []⟩ 8 (by kernel_rfl) (by kernel_rfl) (by kernel_rfl) (by kernel_rfl)) ?_
  intro W base args ds gs before hval0 hW hcnd hsz0 _
  have hW' := hW
  obtain ⟨p, q, hA0, hV, rfl, hfz, hnd⟩ := hW
  have hA : DataW.TrodAll enc Try.prog W 0 (fun _ => true) true Try.f15.params.toList args.toList ds p := hA0
  rw [Try.params15] at hA
  obtain ⟨hargs, rfl, rfl⟩ := trodAll_none hA
  obtain ⟨rfl, rfl⟩ := trodVars_none hV
  have hargs2 : args = ⟨[]⟩ := by first | exact hargs | exact Array.toList_inj.1 hargs
  subst hargs2
  refine ((ClTapedocRuns.sim.mono fun v h q => q.1).law .nil (HR.nil W) (fun _ _ e => by simp at e)).mono fun e W' ⟨he, bel⟩ => ?_
  subst he
  exact ⟨_, rfl, _, _, _, [], _, [], hW', trodAll_mk1 (shut_bool Try.underlying4 _), trodAll_mk0, rfl, bel.frame _, fun h => by cases h⟩
theorem over : Rows.tapedocRunsRow.holds Try.pinned (OpenSpec.ofChange Rows.tapedocRunsSpec) :=
  OpenClaim.holds_of_wide 15 Try.f15 rfl rfl rfl rfl rfl rfl rfl ⟨rfl, rfl, rfl, rfl, rfl⟩ rfl rfl rfl rfl rfl (by kernel_rfl) Try.func15 (by kernel_rfl)
    (of_decide_eq_true (by kernel_rfl)) (by unfold Func.isWrapper; first | (rw [if_pos (by decide +kernel)]; kernel_rfl) | (rw [if_neg (by decide +kernel)]; exact ⟨rfl, rfl⟩))
    (fun os started H enc _ => lifted os started H enc)
theorem proved : Rows.TapedocRunsSaid := over
end Go.Proofs.Ytgdojnamjkhknaa.tapedocRuns
namespace Go.Proofs.Ytgdojnamjkhknaa
/-- The row, under a short name, for the claim. -/
theorem tapedocRuns_holds : Rows.TapedocRunsSaid := tapedocRuns.proved
end Go.Proofs.Ytgdojnamjkhknaa
