/-
  The law PoolPlays answers true, whatever its arguments. No conditions.
-/
import Derived.Test.YtgdojnamjkhknaaRows
import Derived.Test.YtgdojnamjkhknaaQbPr0
import Derived.Test.YtgdojnamjkhknaaQbLcA
import Derived.Carry
import Derived.WalkKit
import Derived.ProofKit
import Derived.OpenShut
import Derived.ShutString
import Derived.ChangeOld
import Derived.Below
import Derived.SizedLaws
namespace Go.Proofs.Ytgdojnamjkhknaa.poolPlays
open Go.ChangeShapes Go.WideShapes Go.ChangeAt Go.RowKit Go.Am
set_option linter.all false
theorem laid : laidOutB Try.prog = true := by kernel_rfl
theorem ag3 : isAg Try.prog 3 = false := by kernel_rfl
theorem ag26 : isAg Try.prog 26 = false := by kernel_rfl
theorem ag76 : isAg Try.prog 76 = false := by kernel_rfl
abbrev spec : List QM := [qA false [.s 1 [.i .i64]], qN 6 [.s 1 [.i .i64], .s 1 [.i .i64], .s 1 [.i .i64], .s 1 [.i .i64], .s 1 [.i .i64], .s 1 [.i .i64]], qA false [.s 7 [.i .i64, .i .i64, .i .i64, .i .i64, .i .i64, .i .i64, .b]], qA false [.f (.i .i64)]]
theorem sim : ∀ H xs, F2 (fun (p : QM) a => p.Q H a) spec xs → Sim Try.prog 12 xs H fun v _ => v = .bool true := PR.L.lawA
theorem own : ownKnob Try.prog.godebug = none := by kernel_rfl
set_option maxRecDepth 100000 in
theorem lifted (os : Os) (started : os.Started) (H : Type) (enc : TypeId × Value → H) :
  ReturnsInHanded {} Try.checked os 12 .any (Rows.poolPlaysSpec.pre6 enc Try.prog Try.f12 Rows.poolPlaysRow.domain false) (Rows.poolPlaysSpec.post enc Try.prog Try.f12 false true false false) := by
 refine returnsInHanded_of_change_sized (C := Try.checked) own started (by kernel_rfl) Try.func12
  (ChangeSpec.witness6 (enc := enc) (C := Try.checked) false ⟨#[], #[.slice none 0 0, .slice none 0 0, .slice none 0 0, .int .i64 0], []⟩ 8 (by kernel_rfl) (by kernel_rfl) (by kernel_rfl) (by kernel_rfl)) ?_
 intro W base args ds gs before hval0 hW hcnd hwt0 _
 have hval : ∀ (j : Nat) t v, Try.f12.params[j]? = some t → args[j]? = some v → Value.okWide Try.prog W .any base t v := hval0
 have hW' := hW
 obtain ⟨p, q, hA0, hV, rfl, hfz, hnd⟩ := hW
 have hA : DataW.TrodAll enc Try.prog W 0 (fun _ => true) true Try.f12.params.toList args.toList ds p := hA0
 have hwt := hwt0
 clear hwt0
 rw [Try.params12] at hA hval hwt
 obtain ⟨v0, vs0, d0, ds0, p0, q0, hargs, rfl, rfl, h0, r0⟩ := trodAll_cons hA
 obtain ⟨v1, vs1, d1, ds1, p1, q1, rfl, rfl, rfl, h1, r1⟩ := trodAll_cons r0
 obtain ⟨v2, vs2, d2, ds2, p2, q2, rfl, rfl, rfl, h2, r2⟩ := trodAll_cons r1
 obtain ⟨v3, vs3, d3, ds3, p3, q3, rfl, rfl, rfl, h3, r3⟩ := trodAll_cons r2
 obtain ⟨rfl, rfl, rfl⟩ := trodAll_nil r3
 obtain rfl : args = #[v0, v1, v2, v3] := by cases args; simp_all
 obtain ⟨rfl, rfl⟩ := trodVars_none hV
 clear hA0 hval0
 simp only [List.append_nil] at hW'
 have ops : F2 (fun (p : QM) v => OpQ W p.Q v) spec [v0, v1, v2, v3] := (.cons (OpA.q (open_argB (P := Try.prog) ag26 (n := 20) (t := 26) (ks := [.s 1 [.i .i64]]) (by kernel_rfl) (hval 0 26 v0 rfl rfl) (fun n hn => by simpa using List.all_eq_true.1 hwt n (DataW.weights_mem_each (j := 0) (t := 26) (d := d0) rfl rfl n hn)) h0)) (.cons (open_nest (P := Try.prog) (e := 82) (t := 77) (n := 20) (wd := 6) (ks := [.s 1 [.i .i64], .s 1 [.i .i64], .s 1 [.i .i64], .s 1 [.i .i64], .s 1 [.i .i64], .s 1 [.i .i64]]) (by kernel_rfl) (by kernel_rfl) (by kernel_rfl) (of_decide_eq_true (by kernel_rfl)) (of_decide_eq_true (by kernel_rfl)) (hval 1 77 v1 rfl rfl) (fun n hn => by simpa using List.all_eq_true.1 hwt n (DataW.weights_mem_each (j := 1) (t := 77) (d := d1) rfl rfl n hn)) h1) (.cons (OpA.q (open_argB (P := Try.prog) ag76 (n := 20) (t := 76) (ks := [.s 7 [.i .i64, .i .i64, .i .i64, .i .i64, .i .i64, .i .i64, .b]]) (by kernel_rfl) (hval 2 76 v2 rfl rfl) (fun n hn => by simpa using List.all_eq_true.1 hwt n (DataW.weights_mem_each (j := 2) (t := 76) (d := d2) rfl rfl n hn)) h2)) (.cons (OpA.q (open_argB (P := Try.prog) ag3 (n := 20) (t := 3) (ks := [.f (.i .i64)]) (by kernel_rfl) (hval 3 3 v3 rfl rfl) (fun n hn => by simpa using List.all_eq_true.1 hwt n (DataW.weights_mem_each (j := 3) (t := 3) (d := d3) rfl rfl n hn)) h3)) .nil))))
 refine (law_ofQ sim ops).mono fun e W' ⟨he, bel⟩ => ?_
 subst he
 exact ⟨_, rfl, _, _, _, [], _, [], hW', trodAll_mk1 (shut_bool Try.underlying4 _), (trodAll_cons_mk (Below.trod laid (by kernel_rfl) (of_decide_eq_true (by kernel_rfl)) h0 bel fun x hx => hW'.lt x (by simp [hx])) (trodAll_cons_mk (Below.trod laid (by kernel_rfl) (of_decide_eq_true (by kernel_rfl)) h1 bel fun x hx => hW'.lt x (by simp [hx])) (trodAll_cons_mk (Below.trod laid (by kernel_rfl) (of_decide_eq_true (by kernel_rfl)) h2 bel fun x hx => hW'.lt x (by simp [hx])) (trodAll_cons_mk (Below.trod laid (by kernel_rfl) (of_decide_eq_true (by kernel_rfl)) h3 bel fun x hx => hW'.lt x (by simp [hx])) trodAll_mk0)))), rfl, bel.frame _, fun h => by cases h⟩
theorem unf : Try.prog.unfollowed 12 = true := by kernel_rfl
theorem rec_ : Try.prog.recurses 12 = true := by unfold Program.recurses; rw [unf]; rfl
theorem inp : Try.prog.inPlace 12 = [] := by kernel_rfl
theorem nam : Try.prog.varsNamed 12 = [] := by kernel_rfl
theorem closed : joinedFacts Try.pinned.checked.prog 12 Try.f12 Rows.poolPlaysSpec Rows.poolPlaysRow = true := by
 unfold joinedFacts
 rw [show Try.pinned.checked.prog.recurses 12 = true from rec_, show Try.pinned.checked.prog.unfollowed 12 = true from unf, show Try.pinned.checked.prog.inPlace 12 = [] from inp, show Try.pinned.checked.prog.varsNamed 12 = [] from nam]
 kernel_rfl
theorem over : Rows.poolPlaysRow.holds Try.pinned (OpenSpec.ofChange Rows.poolPlaysSpec) :=
 OpenClaim.holds_of_wide 12 Try.f12 rfl rfl rfl rfl rfl rfl rfl ⟨rfl, rfl, rfl, rfl, rfl⟩ rfl rfl rfl rfl rfl (by kernel_rfl) Try.func12 closed
  (of_decide_eq_true (by kernel_rfl)) (by unfold Func.isWrapper; first | (rw [if_pos (by decide +kernel)]; kernel_rfl) | (rw [if_neg (by decide +kernel)]; exact ⟨rfl, rfl⟩))
  (fun os started H enc _ => lifted os started H enc)
theorem proved : Rows.PoolPlaysSaid := over
end Go.Proofs.Ytgdojnamjkhknaa.poolPlays
namespace Go.Proofs.Ytgdojnamjkhknaa
theorem poolPlays_holds : Rows.PoolPlaysSaid := poolPlays.proved
end Go.Proofs.Ytgdojnamjkhknaa
