/-
  The law TestsZero answers true, whatever its arguments. No conditions.
-/
import Derived.Test.YtjnppjipoibbeaaRows
import Derived.Test.YtjnppjipoibbeaaPcTests
import Derived.WalkKit
import Derived.ProofKit
import Derived.OpenShut
import Derived.ShutString
import Derived.ChangeOld
import Derived.Below
import Derived.SizedLaws
namespace Go.Proofs.Ytjnppjipoibbeaa.testsZero
open Go.ChangeShapes Go.WideShapes Go.ChangeAt Go.RowKit Go.Am
set_option linter.all false
theorem len5 {l : List Int} (h : l.length = 5) : ∃ x0 x1 x2 x3 x4, l = [x0, x1, x2, x3, x4] := by
  match l, h with
  | [x0, x1, x2, x3, x4], _ => exact ⟨x0, x1, x2, x3, x4, rfl⟩
theorem len7 {l : List Int} (h : l.length = 7) : ∃ x0 x1 x2 x3 x4 x5 x6, l = [x0, x1, x2, x3, x4, x5, x6] := by
  match l, h with
  | [x0, x1, x2, x3, x4, x5, x6], _ => exact ⟨x0, x1, x2, x3, x4, x5, x6, rfl⟩
theorem flat23 {fs : Array Field} (hs : Try.prog.underlying 23 = some (.struct fs)) (i : Nat) (g : Field) (h : fs[i]? = some g) : Try.prog.underlying g.type = some (.int .i64) ∧ g.offset = i ∧ Try.prog.cellsOf g.type = 1 := by
  rw [Try.underlying23] at hs
  cases hs
  have c3 : Try.prog.cellsOf 3 = 1 := by kernel_rfl
  rcases i with _ | _ | _ | _ | _ | i
  all_goals first
    | (cases h; exact ⟨Try.underlying3, rfl, c3⟩)
    | (simp at h)
theorem flat28 {fs : Array Field} (hs : Try.prog.underlying 28 = some (.struct fs)) (i : Nat) (g : Field) (h : fs[i]? = some g) : Try.prog.underlying g.type = some (.int .i64) ∧ g.offset = i ∧ Try.prog.cellsOf g.type = 1 := by
  rw [Try.underlying28] at hs
  cases hs
  have c3 : Try.prog.cellsOf 3 = 1 := by kernel_rfl
  rcases i with _ | _ | _ | _ | _ | _ | _ | i
  all_goals first
    | (cases h; exact ⟨Try.underlying3, rfl, c3⟩)
    | (simp at h)
theorem walk (a0_0 a0_1 a0_2 a0_3 a0_4 a0_5 a0_6 a1_0 a1_1 a1_2 a1_3 a1_4 : Int) (W : World) : Calls Try.prog 6 #[.agg ⟨[.int .i64 a0_0, .int .i64 a0_1, .int .i64 a0_2, .int .i64 a0_3, .int .i64 a0_4, .int .i64 a0_5, .int .i64 a0_6]⟩, .agg ⟨[.int .i64 a1_0, .int .i64 a1_1, .int .i64 a1_2, .int .i64 a1_3, .int .i64 a1_4]⟩] W fun e W' => e = .returned (.bool true) ∧ Below W.heap.size W W' :=
  ((Tests.sim6 a0_0 a0_1 a0_2 a0_3 a0_4 a0_5 a0_6 a1_0 a1_1 a1_2 a1_3 a1_4).mono fun v h q => q).law (.cons (VR.va (.agg (.cons (.v0 (.int _ _)) (.cons (.v0 (.int _ _)) (.cons (.v0 (.int _ _)) (.cons (.v0 (.int _ _)) (.cons (.v0 (.int _ _)) (.cons (.v0 (.int _ _)) (.cons (.v0 (.int _ _)) .nil))))))))) (.cons (VR.va (.agg (.cons (.v0 (.int _ _)) (.cons (.v0 (.int _ _)) (.cons (.v0 (.int _ _)) (.cons (.v0 (.int _ _)) (.cons (.v0 (.int _ _)) .nil))))))) .nil)) (HR.nil W) (fun _ _ e => by simp at e)
theorem own : ownKnob Try.prog.godebug = none := by kernel_rfl
set_option maxRecDepth 100000 in
theorem lifted (os : Os) (started : os.Started) (H : Type) (enc : TypeId × Value → H) :
    ReturnsInHanded {} Try.checked os 6 .any (Rows.testsZeroSpec.pre6 enc Try.prog Try.f6 Rows.testsZeroRow.domain false) (Rows.testsZeroSpec.post enc Try.prog Try.f6 false true false false) := by
  refine returnsInHanded_of_change (C := Try.checked) own started (by kernel_rfl) Try.func6
    (ChangeSpec.witness6 (enc := enc) (C := Try.checked) false ⟨#[], #[.agg ⟨[.int .i64 0, .int .i64 0, .int .i64 0, .int .i64 0, .int .i64 0, .int .i64 0, .int .i64 0]⟩, .agg ⟨[.int .i64 0, .int .i64 0, .int .i64 0, .int .i64 0, .int .i64 0]⟩], []⟩ 8 (by kernel_rfl) (by kernel_rfl) (by kernel_rfl) (by kernel_rfl)) ?_
  intro W base args ds gs before hval0 hW hcnd _
  have hval : ∀ (j : Nat) t v, Try.f6.params[j]? = some t → args[j]? = some v → Value.okWide Try.prog W .any base t v := hval0
  have hW' := hW
  obtain ⟨p, q, hA0, hV, rfl, hfz, hnd⟩ := hW
  have hA : DataW.TrodAll enc Try.prog W 0 (fun _ => true) true Try.f6.params.toList args.toList ds p := hA0
  rw [Try.params6] at hA hval
  obtain ⟨v0, vs0, d0, ds0, p0, q0, hargs, rfl, rfl, h0, r0⟩ := trodAll_cons hA
  obtain ⟨v1, vs1, d1, ds1, p1, q1, rfl, rfl, rfl, h1, r1⟩ := trodAll_cons r0
  obtain ⟨rfl, rfl, rfl⟩ := trodAll_nil r1
  obtain rfl : args = #[v0, v1] := by cases args; simp_all
  obtain ⟨rfl, rfl⟩ := trodVars_none hV
  obtain ⟨z0, l0, rfl, rfl, w0, t0⟩ := open_flat Try.underlying28 (flat28 Try.underlying28) (by kernel_rfl) (hval 0 28 v0 rfl rfl) h0
  obtain ⟨a0_0, a0_1, a0_2, a0_3, a0_4, a0_5, a0_6, rfl⟩ := len7 l0
  obtain ⟨z1, l1, rfl, rfl, w1, t1⟩ := open_flat Try.underlying23 (flat23 Try.underlying23) (by kernel_rfl) (hval 1 23 v1 rfl rfl) h1
  obtain ⟨a1_0, a1_1, a1_2, a1_3, a1_4, rfl⟩ := len5 l1
  clear hA0 hval0
  simp only [List.append_nil] at hW'
  refine (walk a0_0 a0_1 a0_2 a0_3 a0_4 a0_5 a0_6 a1_0 a1_1 a1_2 a1_3 a1_4 W).mono fun e W' ⟨he, bel⟩ => ?_
  subst he
  exact ⟨_, rfl, _, _, _, [], _, [], hW', trodAll_mk1 (shut_bool Try.underlying4 _), (trodAll_cons_mk (t0 _ _ _ _) (trodAll_cons_mk (t1 _ _ _ _) trodAll_mk0)), rfl, bel.frame _, fun h => by cases h⟩
theorem over : Rows.testsZeroRow.holds Try.pinned (OpenSpec.ofChange Rows.testsZeroSpec) :=
  OpenClaim.holds_of_wide 6 Try.f6 rfl rfl rfl rfl rfl rfl rfl ⟨rfl, rfl, rfl, rfl, rfl⟩ rfl rfl rfl rfl rfl (by kernel_rfl) Try.func6 (by kernel_rfl)
    (of_decide_eq_true (by kernel_rfl)) (by unfold Func.isWrapper; first | (rw [if_pos (by decide +kernel)]; kernel_rfl) | (rw [if_neg (by decide +kernel)]; exact ⟨rfl, rfl⟩))
    (fun os started H enc _ => lifted os started H enc)
theorem proved : Rows.TestsZeroSaid := over
end Go.Proofs.Ytjnppjipoibbeaa.testsZero
namespace Go.Proofs.Ytjnppjipoibbeaa
/-- The row, under a short name, for the claim. -/
theorem testsZero_holds : Rows.TestsZeroSaid := testsZero.proved
end Go.Proofs.Ytjnppjipoibbeaa
