/-
  keep: a list's number; loans of numbers.
-/
import Derived.Test.YtgdojnamjkhknaaQbWi
import Derived.Test.YtgdojnamjkhknaaQbD5
import Derived.Test.YtgdojnamjkhknaaQbLcA
namespace Go.Proofs.Ytgdojnamjkhknaa
open Go.Am
set_option linter.all false
set_option maxRecDepth 100000
namespace K
def tblK : Plain := [(30, sWithin)]
theorem tblK_ok : PlainOk Try.prog tblK := .cons (within_ok mixed st30) .nil
namespace E0
noncomputable abbrev gE (k : Nat) : Env := inE tblK [] k noEnv
noncomputable abbrev cE (k : Nat) : CallS := callS tblK [] noEnv 100 k
theorem gE_q (k : Nat) : QuietEnv qt (Plain.env tblK (gE k)) := Plain.quiet (inE_quiet noEnv_quiet (fun f F h => by cases h) k)
theorem gE_ok (k : Nat) : EnvOk Try.prog (Plain.env tblK (gE k)) := Plain.ok tblK_ok (inE_ok (qt := qt) mixed tblK_ok .nil (fun f F h => by cases h) noEnv_ok noEnv_quiet k)
theorem cE_ok (k : Nat) : CallOk (Plain.env tblK (gE k)) (cE k) := callS_ok k
def il49 : FnIL := ⟨28, [.tmp 2], .seq (.reg [ oT 2 (.mov (.const (.slice none 0 0)))]) (.seq (.reg [ oT 3 (.mov (.const (.slice none 0 0)))]) (.seq (.seq (.reg [ oT 4 (.mov (kI 0))]) (.block 0 (.loop (.seq (.seq (.reg [ oT 5 (.mov (.tmp 4)), oT 6 (.mov (.tmp 0)), oT 7 (.len (.tmp 6)), oT 8 (.bin .lss (.tmp 5) (.tmp 7)), oT 9 (.mov (.tmp 8)), ⟨(some 10), (some (9, true)), .mov (.tmp 4)⟩, ⟨(some 11), (some (9, true)), .bin .lss (.tmp 10) (kI 10)⟩, oT 12 (.pick (.tmp 9) (.tmp 11) (.const (.bool false)))]) (.ite (.tmp 12) (.skip) (.exit 0))) (.seq (.block 1 (.reg [ oT 15 (.mov (.tmp 3)), oT 16 (.mov (.tmp 4)), oT 17 (.bin .mul (kI 2) (.tmp 16)), oT 18 (.bin .add (.tmp 17) (kI 1)), oT 19 (.mov (.tmp 0)), oT 20 (.mov (.tmp 4)), oT 21 (.iadr 1 none (.tmp 19) (.tmp 20)), oT 22 (.load (.tmp 21) none), oT 23 (.call 30 [(.tmp 22), (kI 0), (kI 100000)]), oT 24 (.build [(.int .i64 0), (.int .i64 0)] [(0, 1, (.tmp 18)), (1, 1, (.tmp 23))]), oT 25 (.mkrow [(.int .i64 0), (.int .i64 0)] 1 [(0, 2, (.tmp 24))]), oT 26 (.append 2 16 (.tmp 15) (.tmp 25)), oT 3 (.mov (.tmp 26))])) (.reg [ oT 13 (.mov (.tmp 4)), oT 14 (.bin .add (.tmp 13) (kI 1)), oT 4 (.mov (.tmp 14))])))))) (.seq (.reg [ oT 27 (.mov (.tmp 3)), oT 2 (.mov (.tmp 27))]) (.ret))))⟩
theorem st49 : stF Try.prog qt 49 = some il49 := by kernel_rfl
def body49_0 : IL := .seq (.seq (.reg [ oT 5 (.mov (.tmp 4)), oT 6 (.mov (.tmp 0)), oT 7 (.len (.tmp 6)), oT 8 (.bin .lss (.tmp 5) (.tmp 7)), oT 9 (.mov (.tmp 8)), ⟨(some 10), (some (9, true)), .mov (.tmp 4)⟩, ⟨(some 11), (some (9, true)), .bin .lss (.tmp 10) (kI 10)⟩, oT 12 (.pick (.tmp 9) (.tmp 11) (.const (.bool false)))]) (.ite (.tmp 12) (.skip) (.exit 0))) (.seq (.block 1 (.reg [ oT 15 (.mov (.tmp 3)), oT 16 (.mov (.tmp 4)), oT 17 (.bin .mul (kI 2) (.tmp 16)), oT 18 (.bin .add (.tmp 17) (kI 1)), oT 19 (.mov (.tmp 0)), oT 20 (.mov (.tmp 4)), oT 21 (.iadr 1 none (.tmp 19) (.tmp 20)), oT 22 (.load (.tmp 21) none), oT 23 (.call 30 [(.tmp 22), (kI 0), (kI 100000)]), oT 24 (.build [(.int .i64 0), (.int .i64 0)] [(0, 1, (.tmp 18)), (1, 1, (.tmp 23))]), oT 25 (.mkrow [(.int .i64 0), (.int .i64 0)] 1 [(0, 2, (.tmp 24))]), oT 26 (.append 2 16 (.tmp 15) (.tmp 25)), oT 3 (.mov (.tmp 26))])) (.reg [ oT 13 (.mov (.tmp 4)), oT 14 (.bin .add (.tmp 13) (kI 1)), oT 4 (.mov (.tmp 14))]))
def hn49t (aa al a2 : Option Addr) (na ca nl cl n2 c2 : Nat) (i x0 : Int) (b1 o1 : Nat) (H J J2 X : Heap) : Hs := (.join 3 (.con (.con (.con .nil))) (.con (.con (.con .nil))) (.sym (.pur 22000021 (.pointer (some ⟨b1, o1, none⟩)) (.bas 7000022 (.int .i64 x0) (.use 30000026 (rS a2 n2 c2) ⟨[(1, .seg J2)], [.seg X]⟩ .nil))) .nil))
theorem tree49t (aa al a2 : Option Addr) (na ca nl cl n2 c2 : Nat) (i x0 : Int) (b1 o1 : Nat) (H J J2 X : Heap) : pieceS tblK (gE 0) (cE 0) 100 (fun i => exL i body49_0 || inL [2, 3] i) body49_0 (hn49t aa al a2 na ca nl cl n2 c2 i x0 b1 o1 H J J2 X) (frS 28 [(0, (rS aa na ca)), (2, nS), (3, (rS al nl cl)), (4, (sI i))]) [.seg H, .seg J] =
(.req (bif (decide (i < (na : Int))) then true else true) (.br (bif (decide (i < (na : Int))) then (decide (i < 10)) else false)
 (.claim (opA (Plain.env tblK (gE 0)) (.iadr 1 none (.const (.slice aa na ca)) (kI i)) [] [] = some ((.pointer (some ⟨b1, o1, none⟩)), []))
 (.claim (opA (Plain.env tblK (gE 0)) (.load (.const (.pointer (some ⟨b1, o1, none⟩))) none) [] H = some ((.int .i64 x0), H))
 (.req (preWithin 0 100000) (.claim (List.length J2 = List.length J) (.claim (opA (Plain.env tblK (gE 0)) (.append 2 16 (.const (.slice al nl cl)) (.const (denV (ofs [.seg H, .seg J, .blk .fix [(sI (IntKind.wrap .i64 ((IntKind.wrap .i64 (2 * i)) + 1))), (sI (wn x0 0 100000))]]) (.sl 2 0 1 1)))) [] (denH [.seg H, .seg J, .blk .fix [(sI (IntKind.wrap .i64 ((IntKind.wrap .i64 (2 * i)) + 1))), (sI (wn x0 0 100000))]]) = some ((.slice a2 n2 c2), denH [.seg H, .seg J2, .blk .fix [(sI (IntKind.wrap .i64 ((IntKind.wrap .i64 (2 * i)) + 1))), (sI (wn x0 0 100000))], .seg X]))
 (.ret .normal (frS 28 [(0, (rS aa na ca)), (2, nS), (3, (rS a2 n2 c2)), (4, (sI (IntKind.wrap .i64 (i + 1))))]) [.seg H, .seg J2, .blk .fix [(sI (IntKind.wrap .i64 ((IntKind.wrap .i64 (2 * i)) + 1))), (sI (wn x0 0 100000))], .seg X]))))))
 (.ret (.exit 0) (frS 28 [(0, (rS aa na ca)), (2, nS), (3, (rS al nl cl)), (4, (sI i))]) [.seg H, .seg J]))) := by kernel_rfl
def hn49 (aa al : Option Addr) (na ca nl cl : Nat) (H X : Heap) : Hs := (.lp 0 [2, 3] (frS 28 [(2, nS), (3, (rS al nl cl))]) ⟨[], [.seg X]⟩ .nil)
theorem tree49 (aa al : Option Addr) (na ca nl cl : Nat) (H X : Heap) : fnS tblK (gE 0) (cE 0) 100 il49 (hn49 aa al na ca nl cl H X) [(rS aa na ca)] [.seg H] =
(.claim (Wp (Plain.env tblK (gE 0)) (inL [2, 3]) (.block 0 (.loop body49_0)) (denF [.seg H] (frS 28 [(0, (rS aa na ca)), (2, nS), (3, nS), (4, (sI 0))])) (denH [.seg H]) fun e_ s_ h_ => e_ = .normal ∧ s_ = denF [.seg H, .seg X] (frS 28 [(2, nS), (3, (rS al nl cl))]) ∧ h_ = denH [.seg H, .seg X])
 (.ret .ret [(rS al nl cl)] [.seg H, .seg X])) := by kernel_rfl
end E0
open E0
def loansG : Nat → List Int → List R2
 | _, [] => []
 | i, x :: r => ⟨2 * i + 1, wn x 0 100000⟩ :: loansG (i + 1) r
def loansF (l : List Int) : List R2 := loansG 0 (l.take 10)
theorem loansG_len : ∀ (l : List Int) (i : Nat), (loansG i l).length = l.length
 | [], _ => rfl
 | x :: r, i => by simp [loansG, loansG_len r]
theorem loansG_snoc : ∀ (l : List Int) (i : Nat) (x : Int), loansG i (l ++ [x]) = loansG i l ++ [⟨2 * (i + l.length : Nat) + 1, wn x 0 100000⟩]
 | [], i, x => by simp [loansG]
 | y :: r, i, x => by
  simp only [List.cons_append, loansG, loansG_snoc r (i + 1) x, List.length_cons]
  rw [show i + 1 + r.length = i + (r.length + 1) by omega]
theorem loop49 {H : Heap} {aa : Option Addr} {ca : Nat} {l : List Int} (ha : RowsW 1 H (.slice aa l.length ca) (l.map ir)) :
  Wp (Plain.env tblK (gE 0)) (inL [2, 3]) (.block 0 (.loop body49_0)) (denF [.seg H] (frS 28 [(0, (rS aa l.length ca)), (2, nS), (3, nS), (4, (sI 0))])) (denH [.seg H]) fun e s h => ∃ (X : Heap) (al : Option Addr) (nl cl : Nat), (e = .normal ∧ s = denF [.seg H, .seg X] (frS 28 [(2, nS), (3, (rS al nl cl))]) ∧ h = denH [.seg H, .seg X]) ∧ LsS 2 H X (.slice al nl cl) ((loansF l).map e2) := by
 refine Wp.bl (fun m t h => ∃ (i : Nat) (J : Heap) (al : Option Addr) (cl : Nat), i + m = min l.length 10 ∧ t = denF [.seg H, .seg J] (frS 28 [(0, (rS aa l.length ca)), (2, nS), (3, (rS al i cl)), (4, (sI i))]) ∧ h = denH [.seg H, .seg J] ∧ LsS 2 H J (.slice al i cl) ((loansG 0 (l.take i)).map e2)) ?_ (min l.length 10) _ _
  ⟨0, [], none, 0, by omega, by show denF _ _ = denF _ _; kernel_rfl, by simp [denH, denL, It.den], .inl ⟨rfl, rfl⟩⟩
 rintro m t h ⟨i, J, al, cl, hi, rfl, rfl, hl⟩
 by_cases hlt : i < min l.length 10
 ·obtain ⟨x, hx⟩ := getE (show i < l.length by omega)
  obtain ⟨b1, o1, r1⟩ := ha.rowM hx
  have e1 : IntKind.wrap .i64 (IntKind.wrap .i64 (2 * (i : Int)) + 1) = 2 * (i : Int) + 1 := by rw [wrap64 (x := 2 * (i : Int)) (by omega) (by omega), wrap64 (by omega) (by omega)]
  have hlen : (loansG 0 (l.take i)).length = i := by rw [loansG_len, List.length_take]; omega
  obtain ⟨v, J2, X, q1, q2, q3⟩ := hl.app (w := 2) (eby := 16) (R := [some ⟨.fix, [.int .i64 (2 * (i : Int) + 1), .int .i64 (wn x 0 100000)]⟩]) (x := .slice (some ⟨H.length + (J.length + 0), 0, none⟩) 1 1) (new := [e2 ⟨2 * (i : Int) + 1, wn x 0 100000⟩]) (src_item (I := [.seg H, .seg J, .blk .fix [sI (2 * (i : Int) + 1), sI (wn x 0 100000)]]) (k := 2) (o := 0) (n := 1) (c := 1) (w := 2) rfl (by simp)) (by simp [e2]) (by decide) (by simp [hlen]; omega) (by simp [hlen]; omega)
  obtain ⟨a2, c2, rfl⟩ := q3.slc
  have hn2 : (List.map e2 (loansG 0 (l.take i)) ++ [e2 ⟨2 * (i : Int) + 1, wn x 0 100000⟩]).length = i + 1 := by simp [hlen]
  rw [hn2] at q2 q3
  refine Wp.tree (cE_ok 0) (tree49t aa al a2 l.length ca i cl (i + 1) c2 i x b1 o1 H J J2 X) ⟨rfl, rfl⟩ ⟨by simp, fun _ => ⟨r1.ptr _ _, r1.one _, rfl, q1, by rw [e1]; simpa [denH, denL, It.den, den0, denV, denA, ofs, It.len] using q2 (Plain.env tblK (gE 0)), end_next (m - 1) (by omega) ?_⟩, fun q => by simp [show i < l.length by omega] at q; omega⟩
  rw [e1]
  refine ⟨i + 1, J2 ++ ([some ⟨.fix, [.int .i64 (2 * (i : Int) + 1), .int .i64 (wn x 0 100000)]⟩] ++ X), a2, c2, by omega, ?_, by simp [denH, denL, It.den, den0], ?_⟩
  ·rw [wrap64 (x := (i : Int) + 1) (by omega) (by omega)]; show denF _ _ = denF _ _; kernel_rfl
  ·rw [WB.take_one hx, loansG_snoc, List.length_take, Nat.min_eq_left (by omega), Nat.zero_add, List.map_append]
   exact q3
 ·have hil : i = min l.length 10 := by omega
  refine Wp.tree (cE_ok 0) (tree49t aa al al l.length ca i cl 0 0 i 0 0 0 H J J J) ⟨rfl, rfl⟩ ⟨by simp, fun q => by (simp [Bool.cond_eq_ite] at q; omega), fun _ => end_exit ⟨J, al, i, cl, ⟨rfl, by show denF _ _ = denF _ _; kernel_rfl, rfl⟩, ?_⟩⟩
  have : l.take i = l.take 10 := by
   rw [hil]
   rcases Nat.le_total l.length 10 with h | h
   ·rw [Nat.min_eq_left h, List.take_length, List.take_of_length_le h]
   ·rw [Nat.min_eq_right h]
  rw [this] at hl
  exact hl
theorem sum49 : Summ Try.prog 49 (runE (Plain.env tblK (gE 0)) il49) := Summ.runE mixed (gE_ok 0) (gE_q 0) st49
theorem run49 {I : SH} (hI : I.all (It.bnd I.length) = true) {s : Value} {l : List Int} (hs : RowsW 1 (denH I) s (l.map ir)) : ∃ a n c X, runE (Plain.env tblK (gE 0)) il49 [s] (denH I) = some (.slice a n c, denH (I ++ [.seg X])) ∧ LsS 2 (denH I) X (.slice a n c) ((loansF l).map e2) := by
 obtain ⟨aa, ca, rfl⟩ := hs.slcM
 obtain ⟨e, t1, h1, ⟨X, al, nl, cl, ⟨rfl, rfl, rfl⟩, hl⟩, w⟩ := (loop49 hs).exact
 obtain ⟨v, h', r, ⟨rfl, rfl⟩⟩ := fnS_run (Q := fun v h' => v = .slice al nl cl ∧ h' = denH I ++ X) (cE_ok 0) (tree49 aa al l.length ca nl cl (denH I) X) ⟨rfl, rfl⟩ ⟨w, rfl, by simp [denH, denL, It.den]⟩
 refine ⟨al, nl, cl, X, ?_, hl⟩
 rw [denH_snoc I hI]
 have e0 : denH [.seg (denH I)] = denH I := by simp [denH, denL, It.den]
 rw [e0] at r
 exact r
end K
end Go.Proofs.Ytgdojnamjkhknaa
