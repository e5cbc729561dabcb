/-
  The law LateMoves answers true, whatever its arguments. No conditions.
-/
import Derived.Test.YtjnppjipoibbeaaRows
import Derived.Test.YtjnppjipoibbeaaPcMv
import Derived.Test.YtjnppjipoibbeaaLb3
import Derived.Carry
import Derived.WalkKit
import Derived.ProofKit
import Derived.OpenShut
import Derived.ShutString
import Derived.ChangeOld
import Derived.Below
import Derived.SizedLaws
namespace Go.Proofs.Ytjnppjipoibbeaa.lateMoves
open Go.ChangeShapes Go.WideShapes Go.ChangeAt Go.RowKit Go.Am
set_option linter.all false
theorem laid : laidOutB Try.prog = true := by kernel_rfl
theorem walk {a0 a1 : ArgSl} {v0 v1 : Value} (a2 : Int) (W : World) (k0 : a0.Ok W v0) (k1 : a1.Ok W v1) : Calls Try.prog 10 #[v0, v1, .int .i64 a2] W fun e W' => e = .returned (.bool true) ∧ Below W.heap.size W W' := by
  obtain ⟨A, hAdef⟩ : ∃ A, A = [a0, a1] := ⟨_, rfl⟩
  have ok : ∀ a ∈ A, ∃ v, a.Ok W v := by
    intro a ha
    simp only [hAdef, List.mem_cons, List.not_mem_nil, or_false] at ha
    rcases ha with rfl | rfl
    all_goals first
      | exact ⟨_, k0⟩
      | exact ⟨_, k1⟩
  have H := args_hr ok
  have ro := args_ro ok
  subst hAdef
  have s : Sim Try.prog 10 [a0.val 0, a1.val 1, .int .i64 a2] (argH [a0, a1]) fun v _ => v = .bool true := Buck.moves_law (bs := a0.zs) (ms := a1.zs) (arg_at rfl k0).2 (arg_at rfl k1).2 a2
  exact s.law (.cons (VR.v0 (arg_at (A := [a0, a1]) rfl k0).1) (.cons (VR.v0 (arg_at (A := [a0, a1]) rfl k1).1) (.cons (VR.int _ _ _) .nil))) H ro
theorem own : ownKnob Try.prog.godebug = none := by kernel_rfl
set_option maxRecDepth 100000 in
theorem lifted (os : Os) (started : os.Started) (H : Type) (enc : TypeId × Value → H) :
    ReturnsInHanded {} Try.checked os 10 .any (Rows.lateMovesSpec.pre6 enc Try.prog Try.f10 Rows.lateMovesRow.domain false) (Rows.lateMovesSpec.post enc Try.prog Try.f10 false true false false) := by
  refine returnsInHanded_of_change (C := Try.checked) own started (by kernel_rfl) Try.func10
    (ChangeSpec.witness6 (enc := enc) (C := Try.checked) false ⟨#[], #[.slice none 0 0, .slice none 0 0, .int .i64 0], []⟩ 8 (by kernel_rfl) (by kernel_rfl) (by kernel_rfl) (by kernel_rfl)) ?_
  intro W base args ds gs before hval0 hW hcnd _
  have hval : ∀ (j : Nat) t v, Try.f10.params[j]? = some t → args[j]? = some v → Value.okWide Try.prog W .any base t v := hval0
  have hW' := hW
  obtain ⟨p, q, hA0, hV, rfl, hfz, hnd⟩ := hW
  have hA : DataW.TrodAll enc Try.prog W 0 (fun _ => true) true Try.f10.params.toList args.toList ds p := hA0
  rw [Try.params10] at hA hval
  obtain ⟨v0, vs0, d0, ds0, p0, q0, hargs, rfl, rfl, h0, r0⟩ := trodAll_cons hA
  obtain ⟨v1, vs1, d1, ds1, p1, q1, rfl, rfl, rfl, h1, r1⟩ := trodAll_cons r0
  obtain ⟨v2, vs2, d2, ds2, p2, q2, rfl, rfl, rfl, h2, r2⟩ := trodAll_cons r1
  obtain ⟨rfl, rfl, rfl⟩ := trodAll_nil r2
  obtain rfl : args = #[v0, v1, v2] := by cases args; simp_all
  obtain ⟨rfl, rfl⟩ := trodVars_none hV
  have t0 := h0
  obtain ⟨a0, k0⟩ := open_list Try.underlying48 Try.underlying3 (by kernel_rfl) (hval 0 48 v0 rfl rfl) h0
  have t1 := h1
  obtain ⟨a1, k1⟩ := open_list Try.underlying48 Try.underlying3 (by kernel_rfl) (hval 1 48 v1 rfl rfl) h1
  obtain ⟨a2, rfl, rfl, rfl, w2⟩ := open_int Try.underlying3 (hval 2 3 v2 rfl rfl) h2
  clear hA0 hval0
  simp only [List.append_nil] at hW'
  refine (walk a2 W k0 k1).mono fun e W' ⟨he, bel⟩ => ?_
  subst he
  exact ⟨_, rfl, _, _, _, [], _, [], hW', trodAll_mk1 (shut_bool Try.underlying4 _), (trodAll_cons_mk (Below.trod laid (by kernel_rfl) (of_decide_eq_true (by kernel_rfl)) t0 bel fun x hx => hW'.lt x (by simp [hx])) (trodAll_cons_mk (Below.trod laid (by kernel_rfl) (of_decide_eq_true (by kernel_rfl)) t1 bel fun x hx => hW'.lt x (by simp [hx])) (trodAll_cons_mk (shut_int Try.underlying3 w2) trodAll_mk0))), rfl, bel.frame _, fun h => by cases h⟩
theorem over : Rows.lateMovesRow.holds Try.pinned (OpenSpec.ofChange Rows.lateMovesSpec) :=
  OpenClaim.holds_of_wide 10 Try.f10 rfl rfl rfl rfl rfl rfl rfl ⟨rfl, rfl, rfl, rfl, rfl⟩ rfl rfl rfl rfl rfl (by kernel_rfl) Try.func10 (by kernel_rfl)
    (of_decide_eq_true (by kernel_rfl)) (by unfold Func.isWrapper; first | (rw [if_pos (by decide +kernel)]; kernel_rfl) | (rw [if_neg (by decide +kernel)]; exact ⟨rfl, rfl⟩))
    (fun os started H enc _ => lifted os started H enc)
theorem proved : Rows.LateMovesSaid := over
end Go.Proofs.Ytjnppjipoibbeaa.lateMoves
namespace Go.Proofs.Ytjnppjipoibbeaa
/-- The row, under a short name, for the claim. -/
theorem lateMoves_holds : Rows.LateMovesSaid := lateMoves.proved
end Go.Proofs.Ytjnppjipoibbeaa
