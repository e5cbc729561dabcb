/-
  The law DealdocBack answers true, whatever its arguments. No conditions.
-/
import Derived.Test.YtgdojnamjkhknaaRows
import Derived.Test.YtgdojnamjkhknaaQdL20c
import Derived.Test.YtgdojnamjkhknaaQdLcA
import Derived.Carry
import Derived.WalkKit
import Derived.ProofKit
import Derived.OpenShut
import Derived.ShutString
import Derived.ChangeOld
import Derived.Below
import Derived.SizedLaws
namespace Go.Proofs.Ytgdojnamjkhknaa.dealdocBack
open Go.ChangeShapes Go.WideShapes Go.ChangeAt Go.RowKit Go.Am
set_option linter.all false
theorem laid : laidOutB Try.prog = true := by kernel_rfl
theorem ag47 : isAg Try.prog 47 = true := by kernel_rfl
theorem ag59 : isAg Try.prog 59 = true := by kernel_rfl
abbrev spec : List (Bool × List LT) := [(true, [.f (.i .i64), .f (.i .i64), .f (.i .i64), .f (.i .i64), .f (.i .i64), .f (.i .i64), .f (.i .i64), .f (.i .i64), .f (.i .i64), .f (.i .i64), .f (.i .i64), .f (.i .i64), .f (.i .i64), .s 1 [.i .i64], .s 1 [.i .i64], .s 1 [.i .i64], .s 1 [.i .i64], .s 1 [.i .i64], .s 1 [.i .i64], .s 1 [.i .i64]]), (true, [.f (.i .i64), .f (.i .i64), .f (.i .i64), .f (.i .i64), .f (.i .i64), .f (.i .i64), .f (.i .i64), .f (.i .i64), .f (.i .i64), .f (.i .i64), .f (.i .i64), .f (.i .i64), .f (.i .i64), .s 1 [.i .i64], .s 1 [.i .i64], .s 1 [.i .i64], .s 1 [.i .i64], .s 1 [.i .i64], .s 1 [.i .i64], .s 1 [.i .i64]]), (true, [.f (.i .i64), .f (.i .i64), .f (.i .i64), .s 2 [.i .i64, .i .i64], .s 3 [.i .i64, .i .i64, .i .i64], .f (.i .i64), .f (.i .i64), .f (.i .i64), .f (.i .i64), .f (.i .i64), .f (.i .i64), .f (.i .i64), .f (.i .i64), .f (.i .i64), .f (.i .i64), .s 2 [.i .i64, .i .i64], .s 2 [.i .i64, .i .i64], .s 2 [.i .i64, .i .i64]])]
theorem sim : ∀ H xs, F2 (fun p a => ArgOk H p.1 p.2 a) spec xs → Sim Try.prog 20 xs H fun v _ => v = .bool true := T20.lawA
theorem own : ownKnob Try.prog.godebug = none := by kernel_rfl
set_option maxRecDepth 100000 in
theorem lifted (os : Os) (started : os.Started) (H : Type) (enc : TypeId × Value → H) :
  ReturnsInHanded {} Try.checked os 20 .any (Rows.dealdocBackSpec.pre6 enc Try.prog Try.f20 Rows.dealdocBackRow.domain false) (Rows.dealdocBackSpec.post enc Try.prog Try.f20 false true false false) := by
 refine returnsInHanded_of_change_sized (C := Try.checked) own started (by kernel_rfl) Try.func20
  (ChangeSpec.witness6 (enc := enc) (C := Try.checked) false ⟨#[], #[.agg ⟨[.int .i64 0, .int .i64 0, .int .i64 0, .int .i64 0, .int .i64 0, .int .i64 0, .int .i64 0, .int .i64 0, .int .i64 0, .int .i64 0, .int .i64 0, .int .i64 0, .int .i64 0, .slice none 0 0, .slice none 0 0, .slice none 0 0, .slice none 0 0, .slice none 0 0, .slice none 0 0, .slice none 0 0]⟩, .agg ⟨[.int .i64 0, .int .i64 0, .int .i64 0, .int .i64 0, .int .i64 0, .int .i64 0, .int .i64 0, .int .i64 0, .int .i64 0, .int .i64 0, .int .i64 0, .int .i64 0, .int .i64 0, .slice none 0 0, .slice none 0 0, .slice none 0 0, .slice none 0 0, .slice none 0 0, .slice none 0 0, .slice none 0 0]⟩, .agg ⟨[.int .i64 0, .int .i64 0, .int .i64 0, .slice none 0 0, .slice none 0 0, .int .i64 0, .int .i64 0, .int .i64 0, .int .i64 0, .int .i64 0, .int .i64 0, .int .i64 0, .int .i64 0, .int .i64 0, .int .i64 0, .slice none 0 0, .slice none 0 0, .slice none 0 0]⟩], []⟩ 8 (by kernel_rfl) (by kernel_rfl) (by kernel_rfl) (by kernel_rfl)) ?_
 intro W base args ds gs before hval0 hW hcnd hwt0 _
 have hval : ∀ (j : Nat) t v, Try.f20.params[j]? = some t → args[j]? = some v → Value.okWide Try.prog W .any base t v := hval0
 have hW' := hW
 obtain ⟨p, q, hA0, hV, rfl, hfz, hnd⟩ := hW
 have hA : DataW.TrodAll enc Try.prog W 0 (fun _ => true) true Try.f20.params.toList args.toList ds p := hA0
 have hwt := hwt0
 clear hwt0
 rw [Try.params20] at hA hval hwt
 obtain ⟨v0, vs0, d0, ds0, p0, q0, hargs, rfl, rfl, h0, r0⟩ := trodAll_cons hA
 obtain ⟨v1, vs1, d1, ds1, p1, q1, rfl, rfl, rfl, h1, r1⟩ := trodAll_cons r0
 obtain ⟨v2, vs2, d2, ds2, p2, q2, rfl, rfl, rfl, h2, r2⟩ := trodAll_cons r1
 obtain ⟨rfl, rfl, rfl⟩ := trodAll_nil r2
 obtain rfl : args = #[v0, v1, v2] := by cases args; simp_all
 obtain ⟨rfl, rfl⟩ := trodVars_none hV
 clear hA0 hval0
 simp only [List.append_nil] at hW'
 have ops : F2 (fun p v => OpA W p.1 p.2 v) spec [v0, v1, v2] := (.cons (open_argB (P := Try.prog) ag59 (n := 20) (t := 59) (ks := [.f (.i .i64), .f (.i .i64), .f (.i .i64), .f (.i .i64), .f (.i .i64), .f (.i .i64), .f (.i .i64), .f (.i .i64), .f (.i .i64), .f (.i .i64), .f (.i .i64), .f (.i .i64), .f (.i .i64), .s 1 [.i .i64], .s 1 [.i .i64], .s 1 [.i .i64], .s 1 [.i .i64], .s 1 [.i .i64], .s 1 [.i .i64], .s 1 [.i .i64]]) (by kernel_rfl) (hval 0 59 v0 rfl rfl) (fun n hn => by simpa using List.all_eq_true.1 hwt n (DataW.weights_mem_each (j := 0) (t := 59) (d := d0) rfl rfl n hn)) h0) (.cons (open_argB (P := Try.prog) ag59 (n := 20) (t := 59) (ks := [.f (.i .i64), .f (.i .i64), .f (.i .i64), .f (.i .i64), .f (.i .i64), .f (.i .i64), .f (.i .i64), .f (.i .i64), .f (.i .i64), .f (.i .i64), .f (.i .i64), .f (.i .i64), .f (.i .i64), .s 1 [.i .i64], .s 1 [.i .i64], .s 1 [.i .i64], .s 1 [.i .i64], .s 1 [.i .i64], .s 1 [.i .i64], .s 1 [.i .i64]]) (by kernel_rfl) (hval 1 59 v1 rfl rfl) (fun n hn => by simpa using List.all_eq_true.1 hwt n (DataW.weights_mem_each (j := 1) (t := 59) (d := d1) rfl rfl n hn)) h1) (.cons (open_argB (P := Try.prog) ag47 (n := 20) (t := 47) (ks := [.f (.i .i64), .f (.i .i64), .f (.i .i64), .s 2 [.i .i64, .i .i64], .s 3 [.i .i64, .i .i64, .i .i64], .f (.i .i64), .f (.i .i64), .f (.i .i64), .f (.i .i64), .f (.i .i64), .f (.i .i64), .f (.i .i64), .f (.i .i64), .f (.i .i64), .f (.i .i64), .s 2 [.i .i64, .i .i64], .s 2 [.i .i64, .i .i64], .s 2 [.i .i64, .i .i64]]) (by kernel_rfl) (hval 2 47 v2 rfl rfl) (fun n hn => by simpa using List.all_eq_true.1 hwt n (DataW.weights_mem_each (j := 2) (t := 47) (d := d2) rfl rfl n hn)) h2) .nil)))
 refine (law_of sim ops).mono fun e W' ⟨he, bel⟩ => ?_
 subst he
 exact ⟨_, rfl, _, _, _, [], _, [], hW', trodAll_mk1 (shut_bool Try.underlying4 _), (trodAll_cons_mk (Below.trod laid (by kernel_rfl) (of_decide_eq_true (by kernel_rfl)) h0 bel fun x hx => hW'.lt x (by simp [hx])) (trodAll_cons_mk (Below.trod laid (by kernel_rfl) (of_decide_eq_true (by kernel_rfl)) h1 bel fun x hx => hW'.lt x (by simp [hx])) (trodAll_cons_mk (Below.trod laid (by kernel_rfl) (of_decide_eq_true (by kernel_rfl)) h2 bel fun x hx => hW'.lt x (by simp [hx])) trodAll_mk0))), rfl, bel.frame _, fun h => by cases h⟩
theorem unf : Try.prog.unfollowed 20 = true := by kernel_rfl
theorem rec_ : Try.prog.recurses 20 = true := by unfold Program.recurses; rw [unf]; rfl
theorem inp : Try.prog.inPlace 20 = [] := by kernel_rfl
theorem nam : Try.prog.varsNamed 20 = [] := by kernel_rfl
theorem closed : joinedFacts Try.pinned.checked.prog 20 Try.f20 Rows.dealdocBackSpec Rows.dealdocBackRow = true := by
 unfold joinedFacts
 rw [show Try.pinned.checked.prog.recurses 20 = true from rec_, show Try.pinned.checked.prog.unfollowed 20 = true from unf, show Try.pinned.checked.prog.inPlace 20 = [] from inp, show Try.pinned.checked.prog.varsNamed 20 = [] from nam]
 kernel_rfl
theorem over : Rows.dealdocBackRow.holds Try.pinned (OpenSpec.ofChange Rows.dealdocBackSpec) :=
 OpenClaim.holds_of_wide 20 Try.f20 rfl rfl rfl rfl rfl rfl rfl ⟨rfl, rfl, rfl, rfl, rfl⟩ rfl rfl rfl rfl rfl (by kernel_rfl) Try.func20 closed
  (of_decide_eq_true (by kernel_rfl)) (by unfold Func.isWrapper; first | (rw [if_pos (by decide +kernel)]; kernel_rfl) | (rw [if_neg (by decide +kernel)]; exact ⟨rfl, rfl⟩))
  (fun os started H enc _ => lifted os started H enc)
theorem proved : Rows.DealdocBackSaid := over
end Go.Proofs.Ytgdojnamjkhknaa.dealdocBack
namespace Go.Proofs.Ytgdojnamjkhknaa
theorem dealdocBack_holds : Rows.DealdocBackSaid := dealdocBack.proved
end Go.Proofs.Ytgdojnamjkhknaa
