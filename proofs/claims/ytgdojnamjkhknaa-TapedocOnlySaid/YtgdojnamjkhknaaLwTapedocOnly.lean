/-
  The law TapedocOnly answers true, whatever its arguments. No conditions.
-/
import Derived.Test.YtgdojnamjkhknaaRows
import Derived.Test.YtgdojnamjkhknaaL7c
import Derived.Test.YtgdojnamjkhknaaLcA
import Derived.Carry
import Derived.WalkKit
import Derived.ProofKit
import Derived.OpenShut
import Derived.ShutString
import Derived.ChangeOld
import Derived.Below
import Derived.SizedLaws
namespace Go.Proofs.Ytgdojnamjkhknaa.tapedocOnly
open Go.ChangeShapes Go.WideShapes Go.ChangeAt Go.RowKit Go.Am
set_option linter.all false
theorem laid : laidOutB Try.prog = true := by kernel_rfl
theorem ag3 : isAg Try.prog 3 = false := by kernel_rfl
theorem ag5 : isAg Try.prog 5 = false := by kernel_rfl
theorem ag22 : isAg Try.prog 22 = false := by kernel_rfl
theorem ag82 : isAg Try.prog 82 = true := by kernel_rfl
abbrev spec : List (Bool × List LT) := [(true, [.s 1 [.i .i64], .s 1 [.i .i64], .s 1 [.i .i64], .s 1 [.i .i64], .s 1 [.i .i64], .s 1 [.i .i64]]), (false, [.f (.i .i64)]), (false, [.s 1 [.i .u8]]), (false, [.f (.i .i64)]), (false, [.f (.i .u8)]), (false, [.f (.i .i64)])]
theorem sim : ∀ H xs, F2 (fun p a => ArgOk H p.1 p.2 a) spec xs → Sim Try.prog 17 xs H fun v _ => v = .bool true := T17.lawA
theorem own : ownKnob Try.prog.godebug = none := by kernel_rfl
set_option maxRecDepth 100000 in
theorem lifted (os : Os) (started : os.Started) (H : Type) (enc : TypeId × Value → H) :
    ReturnsInHanded {} Try.checked os 17 .any (Rows.tapedocOnlySpec.pre6 enc Try.prog Try.f17 Rows.tapedocOnlyRow.domain false) (Rows.tapedocOnlySpec.post enc Try.prog Try.f17 false true false false) := by
  refine returnsInHanded_of_change_sized (C := Try.checked) own started (by kernel_rfl) Try.func17
    (ChangeSpec.witness6 (enc := enc) (C := Try.checked) false ⟨#[], #[.agg ⟨[.slice none 0 0, .slice none 0 0, .slice none 0 0, .slice none 0 0, .slice none 0 0, .slice none 0 0]⟩, .int .i64 0, .slice none 0 0, .int .i64 0, .int .u8 0, .int .i64 0], []⟩ 8 (by kernel_rfl) (by kernel_rfl) (by kernel_rfl) (by kernel_rfl)) ?_
  intro W base args ds gs before hval0 hW hcnd hwt0 _
  have hval : ∀ (j : Nat) t v, Try.f17.params[j]? = some t → args[j]? = some v → Value.okWide Try.prog W .any base t v := hval0
  have hW' := hW
  obtain ⟨p, q, hA0, hV, rfl, hfz, hnd⟩ := hW
  have hA : DataW.TrodAll enc Try.prog W 0 (fun _ => true) true Try.f17.params.toList args.toList ds p := hA0
  have hwt := hwt0
  clear hwt0
  rw [Try.params17] at hA hval hwt
  obtain ⟨v0, vs0, d0, ds0, p0, q0, hargs, rfl, rfl, h0, r0⟩ := trodAll_cons hA
  obtain ⟨v1, vs1, d1, ds1, p1, q1, rfl, rfl, rfl, h1, r1⟩ := trodAll_cons r0
  obtain ⟨v2, vs2, d2, ds2, p2, q2, rfl, rfl, rfl, h2, r2⟩ := trodAll_cons r1
  obtain ⟨v3, vs3, d3, ds3, p3, q3, rfl, rfl, rfl, h3, r3⟩ := trodAll_cons r2
  obtain ⟨v4, vs4, d4, ds4, p4, q4, rfl, rfl, rfl, h4, r4⟩ := trodAll_cons r3
  obtain ⟨v5, vs5, d5, ds5, p5, q5, rfl, rfl, rfl, h5, r5⟩ := trodAll_cons r4
  obtain ⟨rfl, rfl, rfl⟩ := trodAll_nil r5
  obtain rfl : args = #[v0, v1, v2, v3, v4, v5] := by cases args; simp_all
  obtain ⟨rfl, rfl⟩ := trodVars_none hV
  clear hA0 hval0
  simp only [List.append_nil] at hW'
  have ops : F2 (fun p v => OpA W p.1 p.2 v) spec [v0, v1, v2, v3, v4, v5] := (.cons (open_argB (P := Try.prog) ag82 (n := 20) (t := 82) (ks := [.s 1 [.i .i64], .s 1 [.i .i64], .s 1 [.i .i64], .s 1 [.i .i64], .s 1 [.i .i64], .s 1 [.i .i64]]) (by kernel_rfl) (hval 0 82 v0 rfl rfl) (fun n hn => by simpa using List.all_eq_true.1 hwt n (DataW.weights_mem_each (j := 0) (t := 82) (d := d0) rfl rfl n hn)) h0) (.cons (open_argB (P := Try.prog) ag3 (n := 20) (t := 3) (ks := [.f (.i .i64)]) (by kernel_rfl) (hval 1 3 v1 rfl rfl) (fun n hn => by simpa using List.all_eq_true.1 hwt n (DataW.weights_mem_each (j := 1) (t := 3) (d := d1) rfl rfl n hn)) h1) (.cons (open_argB (P := Try.prog) ag22 (n := 20) (t := 22) (ks := [.s 1 [.i .u8]]) (by kernel_rfl) (hval 2 22 v2 rfl rfl) (fun n hn => by simpa using List.all_eq_true.1 hwt n (DataW.weights_mem_each (j := 2) (t := 22) (d := d2) rfl rfl n hn)) h2) (.cons (open_argB (P := Try.prog) ag3 (n := 20) (t := 3) (ks := [.f (.i .i64)]) (by kernel_rfl) (hval 3 3 v3 rfl rfl) (fun n hn => by simpa using List.all_eq_true.1 hwt n (DataW.weights_mem_each (j := 3) (t := 3) (d := d3) rfl rfl n hn)) h3) (.cons (open_argB (P := Try.prog) ag5 (n := 20) (t := 5) (ks := [.f (.i .u8)]) (by kernel_rfl) (hval 4 5 v4 rfl rfl) (fun n hn => by simpa using List.all_eq_true.1 hwt n (DataW.weights_mem_each (j := 4) (t := 5) (d := d4) rfl rfl n hn)) h4) (.cons (open_argB (P := Try.prog) ag3 (n := 20) (t := 3) (ks := [.f (.i .i64)]) (by kernel_rfl) (hval 5 3 v5 rfl rfl) (fun n hn => by simpa using List.all_eq_true.1 hwt n (DataW.weights_mem_each (j := 5) (t := 3) (d := d5) rfl rfl n hn)) h5) .nil))))))
  refine (law_of sim ops).mono fun e W' ⟨he, bel⟩ => ?_
  subst he
  exact ⟨_, rfl, _, _, _, [], _, [], hW', trodAll_mk1 (shut_bool Try.underlying4 _), (trodAll_cons_mk (Below.trod laid (by kernel_rfl) (of_decide_eq_true (by kernel_rfl)) h0 bel fun x hx => hW'.lt x (by simp [hx])) (trodAll_cons_mk (Below.trod laid (by kernel_rfl) (of_decide_eq_true (by kernel_rfl)) h1 bel fun x hx => hW'.lt x (by simp [hx])) (trodAll_cons_mk (Below.trod laid (by kernel_rfl) (of_decide_eq_true (by kernel_rfl)) h2 bel fun x hx => hW'.lt x (by simp [hx])) (trodAll_cons_mk (Below.trod laid (by kernel_rfl) (of_decide_eq_true (by kernel_rfl)) h3 bel fun x hx => hW'.lt x (by simp [hx])) (trodAll_cons_mk (Below.trod laid (by kernel_rfl) (of_decide_eq_true (by kernel_rfl)) h4 bel fun x hx => hW'.lt x (by simp [hx])) (trodAll_cons_mk (Below.trod laid (by kernel_rfl) (of_decide_eq_true (by kernel_rfl)) h5 bel fun x hx => hW'.lt x (by simp [hx])) trodAll_mk0)))))), rfl, bel.frame _, fun h => by cases h⟩
theorem unf : Try.prog.unfollowed 17 = true := by kernel_rfl
theorem rec_ : Try.prog.recurses 17 = true := by unfold Program.recurses; rw [unf]; rfl
theorem inp : Try.prog.inPlace 17 = [] := by kernel_rfl
theorem nam : Try.prog.varsNamed 17 = [] := by kernel_rfl
theorem closed : joinedFacts Try.pinned.checked.prog 17 Try.f17 Rows.tapedocOnlySpec Rows.tapedocOnlyRow = true := by
  unfold joinedFacts
  rw [show Try.pinned.checked.prog.recurses 17 = true from rec_, show Try.pinned.checked.prog.unfollowed 17 = true from unf, show Try.pinned.checked.prog.inPlace 17 = [] from inp, show Try.pinned.checked.prog.varsNamed 17 = [] from nam]
  kernel_rfl
theorem over : Rows.tapedocOnlyRow.holds Try.pinned (OpenSpec.ofChange Rows.tapedocOnlySpec) :=
  OpenClaim.holds_of_wide 17 Try.f17 rfl rfl rfl rfl rfl rfl rfl ⟨rfl, rfl, rfl, rfl, rfl⟩ rfl rfl rfl rfl rfl (by kernel_rfl) Try.func17 closed
    (of_decide_eq_true (by kernel_rfl)) (by unfold Func.isWrapper; first | (rw [if_pos (by decide +kernel)]; kernel_rfl) | (rw [if_neg (by decide +kernel)]; exact ⟨rfl, rfl⟩))
    (fun os started H enc _ => lifted os started H enc)
theorem proved : Rows.TapedocOnlySaid := over
end Go.Proofs.Ytgdojnamjkhknaa.tapedocOnly
namespace Go.Proofs.Ytgdojnamjkhknaa
/-- The row, under a short name, for the claim. -/
theorem tapedocOnly_holds : Rows.TapedocOnlySaid := tapedocOnly.proved
end Go.Proofs.Ytgdojnamjkhknaa
