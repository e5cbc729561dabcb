/-
  The law TapeRight answers true, whatever its arguments. No conditions.
-/
import Derived.Test.YtjnppjipoibbeaaRows
import Derived.Test.YtjnppjipoibbeaaPcTurn
import Derived.Test.YtjnppjipoibbeaaLb3
import Derived.Carry
import Derived.WalkKit
import Derived.ProofKit
import Derived.OpenShut
import Derived.ShutString
import Derived.ChangeOld
import Derived.Below
import Derived.SizedLaws
namespace Go.Proofs.Ytjnppjipoibbeaa.tapeRight
open Go.ChangeShapes Go.WideShapes Go.ChangeAt Go.RowKit Go.Am
set_option linter.all false
theorem laid : laidOutB Try.prog = true := by kernel_rfl
theorem lenV6 {l : List Value} (h : l.length = 6) : ∃ x0 x1 x2 x3 x4 x5, l = [x0, x1, x2, x3, x4, x5] := by
  match l, h with
  | [x0, x1, x2, x3, x4, x5], _ => exact ⟨x0, x1, x2, x3, x4, x5, rfl⟩
theorem lst66 {fs : Array Field} (hs : Try.prog.underlying 66 = some (.struct fs)) (i : Nat) (g : Field) (h : fs[i]? = some g) : g.type = 48 ∧ g.offset = i ∧ Try.prog.cellsOf g.type = 1 := by
  rw [Try.underlying66] at hs
  cases hs
  have c3 : Try.prog.cellsOf 48 = 1 := by kernel_rfl
  rcases i with _ | _ | _ | _ | _ | _ | i
  all_goals first
    | (cases h; exact ⟨rfl, rfl, c3⟩)
    | (simp at h)
theorem walk {a0_0 a0_1 a0_2 a0_3 a0_4 a0_5 : ArgSl} {x0_0 x0_1 x0_2 x0_3 x0_4 x0_5 : Value} (a1 a2 a3 : Int) (W : World) (k0_0 : a0_0.Ok W x0_0) (k0_1 : a0_1.Ok W x0_1) (k0_2 : a0_2.Ok W x0_2) (k0_3 : a0_3.Ok W x0_3) (k0_4 : a0_4.Ok W x0_4) (k0_5 : a0_5.Ok W x0_5) : Calls Try.prog 12 #[.agg ⟨[x0_0, x0_1, x0_2, x0_3, x0_4, x0_5]⟩, .int .i64 a1, .int .i64 a2, .int .i64 a3] W fun e W' => e = .returned (.bool true) ∧ Below W.heap.size W W' := by
  obtain ⟨A, hAdef⟩ : ∃ A, A = [a0_0, a0_1, a0_2, a0_3, a0_4, a0_5] := ⟨_, rfl⟩
  have ok : ∀ a ∈ A, ∃ v, a.Ok W v := by
    intro a ha
    simp only [hAdef, List.mem_cons, List.not_mem_nil, or_false] at ha
    rcases ha with rfl | rfl | rfl | rfl | rfl | rfl
    all_goals first
      | exact ⟨_, k0_0⟩
      | exact ⟨_, k0_1⟩
      | exact ⟨_, k0_2⟩
      | exact ⟨_, k0_3⟩
      | exact ⟨_, k0_4⟩
      | exact ⟨_, k0_5⟩
  have H := args_hr ok
  have ro := args_ro ok
  subst hAdef
  have s : Sim Try.prog 12 [.agg ⟨[a0_0.val 0, a0_1.val 1, a0_2.val 2, a0_3.val 3, a0_4.val 4, a0_5.val 5]⟩, .int .i64 a1, .int .i64 a2, .int .i64 a3] (argH [a0_0, a0_1, a0_2, a0_3, a0_4, a0_5]) fun v _ => v = .bool true := Tape.right_law (S := ⟨a0_0.zs, a0_1.zs, a0_2.zs, a0_3.zs, a0_4.zs, a0_5.zs⟩) ⟨(arg_at rfl k0_0).2, (arg_at rfl k0_1).2, (arg_at rfl k0_2).2, (arg_at rfl k0_3).2, (arg_at rfl k0_4).2, (arg_at rfl k0_5).2⟩ a1 a2 a3
  exact s.law (.cons (VR.va (.agg (.cons (.v0 (arg_at (A := [a0_0, a0_1, a0_2, a0_3, a0_4, a0_5]) rfl k0_0).1) (.cons (.v0 (arg_at (A := [a0_0, a0_1, a0_2, a0_3, a0_4, a0_5]) rfl k0_1).1) (.cons (.v0 (arg_at (A := [a0_0, a0_1, a0_2, a0_3, a0_4, a0_5]) rfl k0_2).1) (.cons (.v0 (arg_at (A := [a0_0, a0_1, a0_2, a0_3, a0_4, a0_5]) rfl k0_3).1) (.cons (.v0 (arg_at (A := [a0_0, a0_1, a0_2, a0_3, a0_4, a0_5]) rfl k0_4).1) (.cons (.v0 (arg_at (A := [a0_0, a0_1, a0_2, a0_3, a0_4, a0_5]) rfl k0_5).1) .nil)))))))) (.cons (VR.int _ _ _) (.cons (VR.int _ _ _) (.cons (VR.int _ _ _) .nil)))) H ro
theorem own : ownKnob Try.prog.godebug = none := by kernel_rfl
set_option maxRecDepth 100000 in
theorem lifted (os : Os) (started : os.Started) (H : Type) (enc : TypeId × Value → H) :
    ReturnsInHanded {} Try.checked os 12 .any (Rows.tapeRightSpec.pre6 enc Try.prog Try.f12 Rows.tapeRightRow.domain false) (Rows.tapeRightSpec.post enc Try.prog Try.f12 false true false false) := by
  refine returnsInHanded_of_change (C := Try.checked) own started (by kernel_rfl) Try.func12
    (ChangeSpec.witness6 (enc := enc) (C := Try.checked) false ⟨#[], #[.agg ⟨[.slice none 0 0, .slice none 0 0, .slice none 0 0, .slice none 0 0, .slice none 0 0, .slice none 0 0]⟩, .int .i64 0, .int .i64 0, .int .i64 0], []⟩ 8 (by kernel_rfl) (by kernel_rfl) (by kernel_rfl) (by kernel_rfl)) ?_
  intro W base args ds gs before hval0 hW hcnd _
  have hval : ∀ (j : Nat) t v, Try.f12.params[j]? = some t → args[j]? = some v → Value.okWide Try.prog W .any base t v := hval0
  have hW' := hW
  obtain ⟨p, q, hA0, hV, rfl, hfz, hnd⟩ := hW
  have hA : DataW.TrodAll enc Try.prog W 0 (fun _ => true) true Try.f12.params.toList args.toList ds p := hA0
  rw [Try.params12] at hA hval
  obtain ⟨v0, vs0, d0, ds0, p0, q0, hargs, rfl, rfl, h0, r0⟩ := trodAll_cons hA
  obtain ⟨v1, vs1, d1, ds1, p1, q1, rfl, rfl, rfl, h1, r1⟩ := trodAll_cons r0
  obtain ⟨v2, vs2, d2, ds2, p2, q2, rfl, rfl, rfl, h2, r2⟩ := trodAll_cons r1
  obtain ⟨v3, vs3, d3, ds3, p3, q3, rfl, rfl, rfl, h3, r3⟩ := trodAll_cons r2
  obtain ⟨rfl, rfl, rfl⟩ := trodAll_nil r3
  obtain rfl : args = #[v0, v1, v2, v3] := by cases args; simp_all
  obtain ⟨rfl, rfl⟩ := trodVars_none hV
  have t0 := h0
  obtain ⟨vs0, l0, rfl, o0⟩ := open_lists Try.underlying66 Try.underlying48 Try.underlying3 (by kernel_rfl) (lst66 Try.underlying66) (by kernel_rfl) (ts := List.replicate 6 48) (by kernel_rfl) rfl (hval 0 66 v0 rfl rfl) h0
  obtain ⟨x0_0, x0_1, x0_2, x0_3, x0_4, x0_5, rfl⟩ := lenV6 l0
  obtain ⟨a0_0, k0_0⟩ := o0 0 _ rfl
  obtain ⟨a0_1, k0_1⟩ := o0 1 _ rfl
  obtain ⟨a0_2, k0_2⟩ := o0 2 _ rfl
  obtain ⟨a0_3, k0_3⟩ := o0 3 _ rfl
  obtain ⟨a0_4, k0_4⟩ := o0 4 _ rfl
  obtain ⟨a0_5, k0_5⟩ := o0 5 _ rfl
  obtain ⟨a1, rfl, rfl, rfl, w1⟩ := open_int Try.underlying3 (hval 1 3 v1 rfl rfl) h1
  obtain ⟨a2, rfl, rfl, rfl, w2⟩ := open_int Try.underlying3 (hval 2 3 v2 rfl rfl) h2
  obtain ⟨a3, rfl, rfl, rfl, w3⟩ := open_int Try.underlying3 (hval 3 3 v3 rfl rfl) h3
  clear hA0 hval0
  simp only [List.append_nil] at hW'
  refine (walk a1 a2 a3 W k0_0 k0_1 k0_2 k0_3 k0_4 k0_5).mono fun e W' ⟨he, bel⟩ => ?_
  subst he
  exact ⟨_, rfl, _, _, _, [], _, [], hW', trodAll_mk1 (shut_bool Try.underlying4 _), (trodAll_cons_mk (Below.trod laid (by kernel_rfl) (of_decide_eq_true (by kernel_rfl)) t0 bel fun x hx => hW'.lt x (by simp [hx])) (trodAll_cons_mk (shut_int Try.underlying3 w1) (trodAll_cons_mk (shut_int Try.underlying3 w2) (trodAll_cons_mk (shut_int Try.underlying3 w3) trodAll_mk0)))), rfl, bel.frame _, fun h => by cases h⟩
theorem over : Rows.tapeRightRow.holds Try.pinned (OpenSpec.ofChange Rows.tapeRightSpec) :=
  OpenClaim.holds_of_wide 12 Try.f12 rfl rfl rfl rfl rfl rfl rfl ⟨rfl, rfl, rfl, rfl, rfl⟩ rfl rfl rfl rfl rfl (by kernel_rfl) Try.func12 (by kernel_rfl)
    (of_decide_eq_true (by kernel_rfl)) (by unfold Func.isWrapper; first | (rw [if_pos (by decide +kernel)]; kernel_rfl) | (rw [if_neg (by decide +kernel)]; exact ⟨rfl, rfl⟩))
    (fun os started H enc _ => lifted os started H enc)
theorem proved : Rows.TapeRightSaid := over
end Go.Proofs.Ytjnppjipoibbeaa.tapeRight
namespace Go.Proofs.Ytjnppjipoibbeaa
/-- The row, under a short name, for the claim. -/
theorem tapeRight_holds : Rows.TapeRightSaid := tapeRight.proved
end Go.Proofs.Ytjnppjipoibbeaa
