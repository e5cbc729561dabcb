/-
  The law PoolOver answers true, whatever its arguments. No conditions.
-/
import Derived.Test.YtgdojnamjkhknaaRows
import Derived.Test.YtgdojnamjkhknaaPo4
import Derived.Test.YtgdojnamjkhknaaLcA
import Derived.Carry
import Derived.WalkKit
import Derived.ProofKit
import Derived.OpenShut
import Derived.ShutString
import Derived.ChangeOld
import Derived.Below
import Derived.SizedLaws
namespace Go.Proofs.Ytgdojnamjkhknaa.poolOver
open Go.ChangeShapes Go.WideShapes Go.ChangeAt Go.RowKit Go.Am
set_option linter.all false
theorem laid : laidOutB Try.prog = true := by kernel_rfl
theorem ag3 : isAg Try.prog 3 = false := by kernel_rfl
abbrev spec : List (Bool × List LT) := [(false, [.f (.i .i64)]), (false, [.f (.i .i64)]), (false, [.f (.i .i64)]), (false, [.f (.i .i64)]), (false, [.f (.i .i64)])]
theorem sim : ∀ H xs, F2 (fun p a => ArgOk H p.1 p.2 a) spec xs → Sim Try.prog 13 xs H fun v _ => v = .bool true := PO.O.lawA
theorem own : ownKnob Try.prog.godebug = none := by kernel_rfl
set_option maxRecDepth 100000 in
theorem lifted (os : Os) (started : os.Started) (H : Type) (enc : TypeId × Value → H) :
    ReturnsInHanded {} Try.checked os 13 .any (Rows.poolOverSpec.pre6 enc Try.prog Try.f13 Rows.poolOverRow.domain false) (Rows.poolOverSpec.post enc Try.prog Try.f13 false true false false) := by
  refine returnsInHanded_of_change_sized (C := Try.checked) own started (by kernel_rfl) Try.func13
    (ChangeSpec.witness6 (enc := enc) (C := Try.checked) false ⟨#[], #[.int .i64 0, .int .i64 0, .int .i64 0, .int .i64 0, .int .i64 0], []⟩ 8 (by kernel_rfl) (by kernel_rfl) (by kernel_rfl) (by kernel_rfl)) ?_
  intro W base args ds gs before hval0 hW hcnd hwt0 _
  have hval : ∀ (j : Nat) t v, Try.f13.params[j]? = some t → args[j]? = some v → Value.okWide Try.prog W .any base t v := hval0
  have hW' := hW
  obtain ⟨p, q, hA0, hV, rfl, hfz, hnd⟩ := hW
  have hA : DataW.TrodAll enc Try.prog W 0 (fun _ => true) true Try.f13.params.toList args.toList ds p := hA0
  have hwt := hwt0
  clear hwt0
  rw [Try.params13] at hA hval hwt
  obtain ⟨v0, vs0, d0, ds0, p0, q0, hargs, rfl, rfl, h0, r0⟩ := trodAll_cons hA
  obtain ⟨v1, vs1, d1, ds1, p1, q1, rfl, rfl, rfl, h1, r1⟩ := trodAll_cons r0
  obtain ⟨v2, vs2, d2, ds2, p2, q2, rfl, rfl, rfl, h2, r2⟩ := trodAll_cons r1
  obtain ⟨v3, vs3, d3, ds3, p3, q3, rfl, rfl, rfl, h3, r3⟩ := trodAll_cons r2
  obtain ⟨v4, vs4, d4, ds4, p4, q4, rfl, rfl, rfl, h4, r4⟩ := trodAll_cons r3
  obtain ⟨rfl, rfl, rfl⟩ := trodAll_nil r4
  obtain rfl : args = #[v0, v1, v2, v3, v4] := by cases args; simp_all
  obtain ⟨rfl, rfl⟩ := trodVars_none hV
  clear hA0 hval0
  simp only [List.append_nil] at hW'
  have ops : F2 (fun p v => OpA W p.1 p.2 v) spec [v0, v1, v2, v3, v4] := (.cons (open_argB (P := Try.prog) ag3 (n := 20) (t := 3) (ks := [.f (.i .i64)]) (by kernel_rfl) (hval 0 3 v0 rfl rfl) (fun n hn => by simpa using List.all_eq_true.1 hwt n (DataW.weights_mem_each (j := 0) (t := 3) (d := d0) rfl rfl n hn)) h0) (.cons (open_argB (P := Try.prog) ag3 (n := 20) (t := 3) (ks := [.f (.i .i64)]) (by kernel_rfl) (hval 1 3 v1 rfl rfl) (fun n hn => by simpa using List.all_eq_true.1 hwt n (DataW.weights_mem_each (j := 1) (t := 3) (d := d1) rfl rfl n hn)) h1) (.cons (open_argB (P := Try.prog) ag3 (n := 20) (t := 3) (ks := [.f (.i .i64)]) (by kernel_rfl) (hval 2 3 v2 rfl rfl) (fun n hn => by simpa using List.all_eq_true.1 hwt n (DataW.weights_mem_each (j := 2) (t := 3) (d := d2) rfl rfl n hn)) h2) (.cons (open_argB (P := Try.prog) ag3 (n := 20) (t := 3) (ks := [.f (.i .i64)]) (by kernel_rfl) (hval 3 3 v3 rfl rfl) (fun n hn => by simpa using List.all_eq_true.1 hwt n (DataW.weights_mem_each (j := 3) (t := 3) (d := d3) rfl rfl n hn)) h3) (.cons (open_argB (P := Try.prog) ag3 (n := 20) (t := 3) (ks := [.f (.i .i64)]) (by kernel_rfl) (hval 4 3 v4 rfl rfl) (fun n hn => by simpa using List.all_eq_true.1 hwt n (DataW.weights_mem_each (j := 4) (t := 3) (d := d4) rfl rfl n hn)) h4) .nil)))))
  refine (law_of sim ops).mono fun e W' ⟨he, bel⟩ => ?_
  subst he
  exact ⟨_, rfl, _, _, _, [], _, [], hW', trodAll_mk1 (shut_bool Try.underlying4 _), (trodAll_cons_mk (Below.trod laid (by kernel_rfl) (of_decide_eq_true (by kernel_rfl)) h0 bel fun x hx => hW'.lt x (by simp [hx])) (trodAll_cons_mk (Below.trod laid (by kernel_rfl) (of_decide_eq_true (by kernel_rfl)) h1 bel fun x hx => hW'.lt x (by simp [hx])) (trodAll_cons_mk (Below.trod laid (by kernel_rfl) (of_decide_eq_true (by kernel_rfl)) h2 bel fun x hx => hW'.lt x (by simp [hx])) (trodAll_cons_mk (Below.trod laid (by kernel_rfl) (of_decide_eq_true (by kernel_rfl)) h3 bel fun x hx => hW'.lt x (by simp [hx])) (trodAll_cons_mk (Below.trod laid (by kernel_rfl) (of_decide_eq_true (by kernel_rfl)) h4 bel fun x hx => hW'.lt x (by simp [hx])) trodAll_mk0))))), rfl, bel.frame _, fun h => by cases h⟩
theorem unf : Try.prog.unfollowed 13 = true := by kernel_rfl
theorem rec_ : Try.prog.recurses 13 = true := by unfold Program.recurses; rw [unf]; rfl
theorem inp : Try.prog.inPlace 13 = [] := by kernel_rfl
theorem nam : Try.prog.varsNamed 13 = [] := by kernel_rfl
theorem closed : joinedFacts Try.pinned.checked.prog 13 Try.f13 Rows.poolOverSpec Rows.poolOverRow = true := by
  unfold joinedFacts
  rw [show Try.pinned.checked.prog.recurses 13 = true from rec_, show Try.pinned.checked.prog.unfollowed 13 = true from unf, show Try.pinned.checked.prog.inPlace 13 = [] from inp, show Try.pinned.checked.prog.varsNamed 13 = [] from nam]
  kernel_rfl
theorem over : Rows.poolOverRow.holds Try.pinned (OpenSpec.ofChange Rows.poolOverSpec) :=
  OpenClaim.holds_of_wide 13 Try.f13 rfl rfl rfl rfl rfl rfl rfl ⟨rfl, rfl, rfl, rfl, rfl⟩ rfl rfl rfl rfl rfl (by kernel_rfl) Try.func13 closed
    (of_decide_eq_true (by kernel_rfl)) (by unfold Func.isWrapper; first | (rw [if_pos (by decide +kernel)]; kernel_rfl) | (rw [if_neg (by decide +kernel)]; exact ⟨rfl, rfl⟩))
    (fun os started H enc _ => lifted os started H enc)
theorem proved : Rows.PoolOverSaid := over
end Go.Proofs.Ytgdojnamjkhknaa.poolOver
namespace Go.Proofs.Ytgdojnamjkhknaa
/-- The row, under a short name, for the claim. -/
theorem poolOver_holds : Rows.PoolOverSaid := poolOver.proved
end Go.Proofs.Ytgdojnamjkhknaa
