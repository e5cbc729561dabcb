/-
  The law TestsTell answers true, whatever its arguments. No conditions.
-/
import Derived.Test.YtjnppjipoibbeaaRows
import Derived.Test.YtjnppjipoibbeaaPcTell
import Derived.WalkKit
import Derived.ProofKit
import Derived.OpenShut
import Derived.ShutString
import Derived.ChangeOld
import Derived.Below
import Derived.SizedLaws
namespace Go.Proofs.Ytjnppjipoibbeaa.testsTell
open Go.ChangeShapes Go.WideShapes Go.ChangeAt Go.RowKit Go.Am
set_option linter.all false
theorem len5 {l : List Int} (h : l.length = 5) : ∃ x0 x1 x2 x3 x4, l = [x0, x1, x2, x3, x4] := by
  match l, h with
  | [x0, x1, x2, x3, x4], _ => exact ⟨x0, x1, x2, x3, x4, rfl⟩
theorem len7 {l : List Int} (h : l.length = 7) : ∃ x0 x1 x2 x3 x4 x5 x6, l = [x0, x1, x2, x3, x4, x5, x6] := by
  match l, h with
  | [x0, x1, x2, x3, x4, x5, x6], _ => exact ⟨x0, x1, x2, x3, x4, x5, x6, rfl⟩
theorem flat23 {fs : Array Field} (hs : Try.prog.underlying 23 = some (.struct fs)) (i : Nat) (g : Field) (h : fs[i]? = some g) : Try.prog.underlying g.type = some (.int .i64) ∧ g.offset = i ∧ Try.prog.cellsOf g.type = 1 := by
  rw [Try.underlying23] at hs
  cases hs
  have c3 : Try.prog.cellsOf 3 = 1 := by kernel_rfl
  rcases i with _ | _ | _ | _ | _ | i
  all_goals first
    | (cases h; exact ⟨Try.underlying3, rfl, c3⟩)
    | (simp at h)
theorem flat28 {fs : Array Field} (hs : Try.prog.underlying 28 = some (.struct fs)) (i : Nat) (g : Field) (h : fs[i]? = some g) : Try.prog.underlying g.type = some (.int .i64) ∧ g.offset = i ∧ Try.prog.cellsOf g.type = 1 := by
  rw [Try.underlying28] at hs
  cases hs
  have c3 : Try.prog.cellsOf 3 = 1 := by kernel_rfl
  rcases i with _ | _ | _ | _ | _ | _ | _ | i
  all_goals first
    | (cases h; exact ⟨Try.underlying3, rfl, c3⟩)
    | (simp at h)
theorem walk (a0_0 a0_1 a0_2 a0_3 a0_4 a1_0 a1_1 a1_2 a1_3 a1_4 a1_5 a1_6 a2 a3 : Int) (W : World) : Calls Try.prog 4 #[.agg ⟨[.int .i64 a0_0, .int .i64 a0_1, .int .i64 a0_2, .int .i64 a0_3, .int .i64 a0_4]⟩, .agg ⟨[.int .i64 a1_0, .int .i64 a1_1, .int .i64 a1_2, .int .i64 a1_3, .int .i64 a1_4, .int .i64 a1_5, .int .i64 a1_6]⟩, .int .i64 a2, .int .i64 a3] W fun e W' => e = .returned (.bool true) ∧ Below W.heap.size W W' :=
  ((Tests.sim4 a0_0 a0_1 a0_2 a0_3 a0_4 a1_0 a1_1 a1_2 a1_3 a1_4 a1_5 a1_6 a2 a3).mono fun v h q => q).law (.cons (VR.va (.agg (.cons (.v0 (.int _ _)) (.cons (.v0 (.int _ _)) (.cons (.v0 (.int _ _)) (.cons (.v0 (.int _ _)) (.cons (.v0 (.int _ _)) .nil))))))) (.cons (VR.va (.agg (.cons (.v0 (.int _ _)) (.cons (.v0 (.int _ _)) (.cons (.v0 (.int _ _)) (.cons (.v0 (.int _ _)) (.cons (.v0 (.int _ _)) (.cons (.v0 (.int _ _)) (.cons (.v0 (.int _ _)) .nil))))))))) (.cons (VR.int _ _ _) (.cons (VR.int _ _ _) .nil)))) (HR.nil W) (fun _ _ e => by simp at e)
theorem own : ownKnob Try.prog.godebug = none := by kernel_rfl
set_option maxRecDepth 100000 in
theorem lifted (os : Os) (started : os.Started) (H : Type) (enc : TypeId × Value → H) :
    ReturnsInHanded {} Try.checked os 4 .any (Rows.testsTellSpec.pre6 enc Try.prog Try.f4 Rows.testsTellRow.domain false) (Rows.testsTellSpec.post enc Try.prog Try.f4 false true false false) := by
  refine returnsInHanded_of_change (C := Try.checked) own started (by kernel_rfl) Try.func4
    (ChangeSpec.witness6 (enc := enc) (C := Try.checked) false ⟨#[], #[.agg ⟨[.int .i64 0, .int .i64 0, .int .i64 0, .int .i64 0, .int .i64 0]⟩, .agg ⟨[.int .i64 0, .int .i64 0, .int .i64 0, .int .i64 0, .int .i64 0, .int .i64 0, .int .i64 0]⟩, .int .i64 0, .int .i64 0], []⟩ 8 (by kernel_rfl) (by kernel_rfl) (by kernel_rfl) (by kernel_rfl)) ?_
  intro W base args ds gs before hval0 hW hcnd _
  have hval : ∀ (j : Nat) t v, Try.f4.params[j]? = some t → args[j]? = some v → Value.okWide Try.prog W .any base t v := hval0
  have hW' := hW
  obtain ⟨p, q, hA0, hV, rfl, hfz, hnd⟩ := hW
  have hA : DataW.TrodAll enc Try.prog W 0 (fun _ => true) true Try.f4.params.toList args.toList ds p := hA0
  rw [Try.params4] at hA hval
  obtain ⟨v0, vs0, d0, ds0, p0, q0, hargs, rfl, rfl, h0, r0⟩ := trodAll_cons hA
  obtain ⟨v1, vs1, d1, ds1, p1, q1, rfl, rfl, rfl, h1, r1⟩ := trodAll_cons r0
  obtain ⟨v2, vs2, d2, ds2, p2, q2, rfl, rfl, rfl, h2, r2⟩ := trodAll_cons r1
  obtain ⟨v3, vs3, d3, ds3, p3, q3, rfl, rfl, rfl, h3, r3⟩ := trodAll_cons r2
  obtain ⟨rfl, rfl, rfl⟩ := trodAll_nil r3
  obtain rfl : args = #[v0, v1, v2, v3] := by cases args; simp_all
  obtain ⟨rfl, rfl⟩ := trodVars_none hV
  obtain ⟨z0, l0, rfl, rfl, w0, t0⟩ := open_flat Try.underlying23 (flat23 Try.underlying23) (by kernel_rfl) (hval 0 23 v0 rfl rfl) h0
  obtain ⟨a0_0, a0_1, a0_2, a0_3, a0_4, rfl⟩ := len5 l0
  obtain ⟨z1, l1, rfl, rfl, w1, t1⟩ := open_flat Try.underlying28 (flat28 Try.underlying28) (by kernel_rfl) (hval 1 28 v1 rfl rfl) h1
  obtain ⟨a1_0, a1_1, a1_2, a1_3, a1_4, a1_5, a1_6, rfl⟩ := len7 l1
  obtain ⟨a2, rfl, rfl, rfl, w2⟩ := open_int Try.underlying3 (hval 2 3 v2 rfl rfl) h2
  obtain ⟨a3, rfl, rfl, rfl, w3⟩ := open_int Try.underlying3 (hval 3 3 v3 rfl rfl) h3
  clear hA0 hval0
  simp only [List.append_nil] at hW'
  refine (walk a0_0 a0_1 a0_2 a0_3 a0_4 a1_0 a1_1 a1_2 a1_3 a1_4 a1_5 a1_6 a2 a3 W).mono fun e W' ⟨he, bel⟩ => ?_
  subst he
  exact ⟨_, rfl, _, _, _, [], _, [], hW', trodAll_mk1 (shut_bool Try.underlying4 _), (trodAll_cons_mk (t0 _ _ _ _) (trodAll_cons_mk (t1 _ _ _ _) (trodAll_cons_mk (shut_int Try.underlying3 w2) (trodAll_cons_mk (shut_int Try.underlying3 w3) trodAll_mk0)))), rfl, bel.frame _, fun h => by cases h⟩
theorem over : Rows.testsTellRow.holds Try.pinned (OpenSpec.ofChange Rows.testsTellSpec) :=
  OpenClaim.holds_of_wide 4 Try.f4 rfl rfl rfl rfl rfl rfl rfl ⟨rfl, rfl, rfl, rfl, rfl⟩ rfl rfl rfl rfl rfl (by kernel_rfl) Try.func4 (by kernel_rfl)
    (of_decide_eq_true (by kernel_rfl)) (by unfold Func.isWrapper; first | (rw [if_pos (by decide +kernel)]; kernel_rfl) | (rw [if_neg (by decide +kernel)]; exact ⟨rfl, rfl⟩))
    (fun os started H enc _ => lifted os started H enc)
theorem proved : Rows.TestsTellSaid := over
end Go.Proofs.Ytjnppjipoibbeaa.testsTell
namespace Go.Proofs.Ytjnppjipoibbeaa
/-- The row, under a short name, for the claim. -/
theorem testsTell_holds : Rows.TestsTellSaid := testsTell.proved
end Go.Proofs.Ytjnppjipoibbeaa
