/-
  The law DealTells answers true, whatever its arguments. No conditions.
-/
import Derived.Test.YtgdojnamjkhknaaRows
import Derived.Test.YtgdojnamjkhknaaLa8
import Derived.Test.YtgdojnamjkhknaaLcA
import Derived.Carry
import Derived.WalkKit
import Derived.ProofKit
import Derived.OpenShut
import Derived.ShutString
import Derived.ChangeOld
import Derived.Below
import Derived.SizedLaws
namespace Go.Proofs.Ytgdojnamjkhknaa.dealTells
open Go.ChangeShapes Go.WideShapes Go.ChangeAt Go.RowKit Go.Am
set_option linter.all false
theorem laid : laidOutB Try.prog = true := by kernel_rfl
theorem ag4 : isAg Try.prog 4 = false := by kernel_rfl
theorem ag44 : isAg Try.prog 44 = false := by kernel_rfl
theorem ag47 : isAg Try.prog 47 = true := by kernel_rfl
theorem ag59 : isAg Try.prog 59 = true := by kernel_rfl
abbrev spec : List (Bool × List LT) := [(true, [.f (.i .i64), .f (.i .i64), .f (.i .i64), .s 2 [.i .i64, .i .i64], .s 3 [.i .i64, .i .i64, .i .i64], .f (.i .i64), .f (.i .i64), .f (.i .i64), .f (.i .i64), .f (.i .i64), .f (.i .i64), .f (.i .i64), .f (.i .i64), .f (.i .i64), .f (.i .i64), .s 2 [.i .i64, .i .i64], .s 2 [.i .i64, .i .i64], .s 2 [.i .i64, .i .i64]]), (true, [.f (.i .i64), .f (.i .i64), .f (.i .i64), .f (.i .i64), .f (.i .i64), .f (.i .i64), .f (.i .i64), .f (.i .i64), .f (.i .i64), .f (.i .i64), .f (.i .i64), .f (.i .i64), .f (.i .i64), .s 1 [.i .i64], .s 1 [.i .i64], .s 1 [.i .i64], .s 1 [.i .i64], .s 1 [.i .i64], .s 1 [.i .i64], .s 1 [.i .i64]]), (false, [.f (.b)]), (false, [.s 2 [.i .i64, .i .i64]])]
theorem sim : ∀ H xs, F2 (fun p a => ArgOk H p.1 p.2 a) spec xs → Sim Try.prog 8 xs H fun v _ => v = .bool true := L.lawA8
theorem own : ownKnob Try.prog.godebug = none := by kernel_rfl
set_option maxRecDepth 100000 in
theorem lifted (os : Os) (started : os.Started) (H : Type) (enc : TypeId × Value → H) :
    ReturnsInHanded {} Try.checked os 8 .any (Rows.dealTellsSpec.pre6 enc Try.prog Try.f8 Rows.dealTellsRow.domain false) (Rows.dealTellsSpec.post enc Try.prog Try.f8 false true false false) := by
  refine returnsInHanded_of_change_sized (C := Try.checked) own started (by kernel_rfl) Try.func8
    (ChangeSpec.witness6 (enc := enc) (C := Try.checked) false ⟨#[], #[.agg ⟨[.int .i64 0, .int .i64 0, .int .i64 0, .slice none 0 0, .slice none 0 0, .int .i64 0, .int .i64 0, .int .i64 0, .int .i64 0, .int .i64 0, .int .i64 0, .int .i64 0, .int .i64 0, .int .i64 0, .int .i64 0, .slice none 0 0, .slice none 0 0, .slice none 0 0]⟩, .agg ⟨[.int .i64 0, .int .i64 0, .int .i64 0, .int .i64 0, .int .i64 0, .int .i64 0, .int .i64 0, .int .i64 0, .int .i64 0, .int .i64 0, .int .i64 0, .int .i64 0, .int .i64 0, .slice none 0 0, .slice none 0 0, .slice none 0 0, .slice none 0 0, .slice none 0 0, .slice none 0 0, .slice none 0 0]⟩, .bool false, .slice none 0 0], []⟩ 8 (by kernel_rfl) (by kernel_rfl) (by kernel_rfl) (by kernel_rfl)) ?_
  intro W base args ds gs before hval0 hW hcnd hwt0 _
  have hval : ∀ (j : Nat) t v, Try.f8.params[j]? = some t → args[j]? = some v → Value.okWide Try.prog W .any base t v := hval0
  have hW' := hW
  obtain ⟨p, q, hA0, hV, rfl, hfz, hnd⟩ := hW
  have hA : DataW.TrodAll enc Try.prog W 0 (fun _ => true) true Try.f8.params.toList args.toList ds p := hA0
  have hwt := hwt0
  clear hwt0
  rw [Try.params8] at hA hval hwt
  obtain ⟨v0, vs0, d0, ds0, p0, q0, hargs, rfl, rfl, h0, r0⟩ := trodAll_cons hA
  obtain ⟨v1, vs1, d1, ds1, p1, q1, rfl, rfl, rfl, h1, r1⟩ := trodAll_cons r0
  obtain ⟨v2, vs2, d2, ds2, p2, q2, rfl, rfl, rfl, h2, r2⟩ := trodAll_cons r1
  obtain ⟨v3, vs3, d3, ds3, p3, q3, rfl, rfl, rfl, h3, r3⟩ := trodAll_cons r2
  obtain ⟨rfl, rfl, rfl⟩ := trodAll_nil r3
  obtain rfl : args = #[v0, v1, v2, v3] := by cases args; simp_all
  obtain ⟨rfl, rfl⟩ := trodVars_none hV
  clear hA0 hval0
  simp only [List.append_nil] at hW'
  have ops : F2 (fun p v => OpA W p.1 p.2 v) spec [v0, v1, v2, v3] := (.cons (open_argB (P := Try.prog) ag47 (n := 20) (t := 47) (ks := [.f (.i .i64), .f (.i .i64), .f (.i .i64), .s 2 [.i .i64, .i .i64], .s 3 [.i .i64, .i .i64, .i .i64], .f (.i .i64), .f (.i .i64), .f (.i .i64), .f (.i .i64), .f (.i .i64), .f (.i .i64), .f (.i .i64), .f (.i .i64), .f (.i .i64), .f (.i .i64), .s 2 [.i .i64, .i .i64], .s 2 [.i .i64, .i .i64], .s 2 [.i .i64, .i .i64]]) (by kernel_rfl) (hval 0 47 v0 rfl rfl) (fun n hn => by simpa using List.all_eq_true.1 hwt n (DataW.weights_mem_each (j := 0) (t := 47) (d := d0) rfl rfl n hn)) h0) (.cons (open_argB (P := Try.prog) ag59 (n := 20) (t := 59) (ks := [.f (.i .i64), .f (.i .i64), .f (.i .i64), .f (.i .i64), .f (.i .i64), .f (.i .i64), .f (.i .i64), .f (.i .i64), .f (.i .i64), .f (.i .i64), .f (.i .i64), .f (.i .i64), .f (.i .i64), .s 1 [.i .i64], .s 1 [.i .i64], .s 1 [.i .i64], .s 1 [.i .i64], .s 1 [.i .i64], .s 1 [.i .i64], .s 1 [.i .i64]]) (by kernel_rfl) (hval 1 59 v1 rfl rfl) (fun n hn => by simpa using List.all_eq_true.1 hwt n (DataW.weights_mem_each (j := 1) (t := 59) (d := d1) rfl rfl n hn)) h1) (.cons (open_argB (P := Try.prog) ag4 (n := 20) (t := 4) (ks := [.f (.b)]) (by kernel_rfl) (hval 2 4 v2 rfl rfl) (fun n hn => by simpa using List.all_eq_true.1 hwt n (DataW.weights_mem_each (j := 2) (t := 4) (d := d2) rfl rfl n hn)) h2) (.cons (open_argB (P := Try.prog) ag44 (n := 20) (t := 44) (ks := [.s 2 [.i .i64, .i .i64]]) (by kernel_rfl) (hval 3 44 v3 rfl rfl) (fun n hn => by simpa using List.all_eq_true.1 hwt n (DataW.weights_mem_each (j := 3) (t := 44) (d := d3) rfl rfl n hn)) h3) .nil))))
  refine (law_of sim ops).mono fun e W' ⟨he, bel⟩ => ?_
  subst he
  exact ⟨_, rfl, _, _, _, [], _, [], hW', trodAll_mk1 (shut_bool Try.underlying4 _), (trodAll_cons_mk (Below.trod laid (by kernel_rfl) (of_decide_eq_true (by kernel_rfl)) h0 bel fun x hx => hW'.lt x (by simp [hx])) (trodAll_cons_mk (Below.trod laid (by kernel_rfl) (of_decide_eq_true (by kernel_rfl)) h1 bel fun x hx => hW'.lt x (by simp [hx])) (trodAll_cons_mk (Below.trod laid (by kernel_rfl) (of_decide_eq_true (by kernel_rfl)) h2 bel fun x hx => hW'.lt x (by simp [hx])) (trodAll_cons_mk (Below.trod laid (by kernel_rfl) (of_decide_eq_true (by kernel_rfl)) h3 bel fun x hx => hW'.lt x (by simp [hx])) trodAll_mk0)))), rfl, bel.frame _, fun h => by cases h⟩
theorem unf : Try.prog.unfollowed 8 = false := by kernel_rfl
theorem rec_ : Try.prog.recurses 8 = false := recurses_no unf (L := [(8, 6), (7, 5), (39, 4), (38, 4), (36, 0), (42, 1), (77, 0), (37, 4), (73, 3), (40, 2), (75, 1), (97, 0), (96, 1), (95, 1), (94, 1), (74, 0), (41, 2), (76, 0), (49, 1), (30, 0)]) (by kernel_rfl) (by kernel_rfl)
theorem inp : Try.prog.inPlace 8 = [] := by kernel_rfl
theorem nam : Try.prog.varsNamed 8 = [] := by kernel_rfl
theorem closed : joinedFacts Try.pinned.checked.prog 8 Try.f8 Rows.dealTellsSpec Rows.dealTellsRow = true := by
  unfold joinedFacts
  rw [show Try.pinned.checked.prog.recurses 8 = false from rec_, show Try.pinned.checked.prog.unfollowed 8 = false from unf, show Try.pinned.checked.prog.inPlace 8 = [] from inp, show Try.pinned.checked.prog.varsNamed 8 = [] from nam]
  kernel_rfl
theorem over : Rows.dealTellsRow.holds Try.pinned (OpenSpec.ofChange Rows.dealTellsSpec) :=
  OpenClaim.holds_of_wide 8 Try.f8 rfl rfl rfl rfl rfl rfl rfl ⟨rfl, rfl, rfl, rfl, rfl⟩ rfl rfl rfl rfl rfl (by kernel_rfl) Try.func8 closed
    (of_decide_eq_true (by kernel_rfl)) (by unfold Func.isWrapper; first | (rw [if_pos (by decide +kernel)]; kernel_rfl) | (rw [if_neg (by decide +kernel)]; exact ⟨rfl, rfl⟩))
    (fun os started H enc _ => lifted os started H enc)
theorem proved : Rows.DealTellsSaid := over
end Go.Proofs.Ytgdojnamjkhknaa.dealTells
namespace Go.Proofs.Ytgdojnamjkhknaa
/-- The row, under a short name, for the claim. -/
theorem dealTells_holds : Rows.DealTellsSaid := dealTells.proved
end Go.Proofs.Ytgdojnamjkhknaa
