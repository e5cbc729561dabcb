/-
  keep: a list's number; loans of numbers.
-/
import Derived.Test.YtgdojnamjkhknaaQdWi
import Derived.Test.YtgdojnamjkhknaaQdD5
import Derived.Test.YtgdojnamjkhknaaQdLcA
namespace Go.Proofs.Ytgdojnamjkhknaa
open Go.Am
set_option linter.all false
set_option maxRecDepth 100000
namespace K
open D.A (tupIB pre1 pre1_u anyL)
open D (drop_at)
def tblK : Plain := [(30, sWithin)]
theorem tblK_ok : PlainOk Try.prog tblK := .cons (within_ok mixed st30) .nil
namespace E0
noncomputable abbrev gE (k : Nat) : Env := inE tblK [] k noEnv
noncomputable abbrev cE (k : Nat) : CallS := callS tblK [] noEnv 100 k
theorem gE_q (k : Nat) : QuietEnv qt (Plain.env tblK (gE k)) := Plain.quiet (inE_quiet noEnv_quiet (fun f F h => by cases h) k)
theorem gE_ok (k : Nat) : EnvOk Try.prog (Plain.env tblK (gE k)) := Plain.ok tblK_ok (inE_ok (qt := qt) mixed tblK_ok .nil (fun f F h => by cases h) noEnv_ok noEnv_quiet k)
theorem cE_ok (k : Nat) : CallOk (Plain.env tblK (gE k)) (cE k) := callS_ok k
def il76 : FnIL := ⟨15, [.tmp 4], .seq (.reg [ oT 4 (.mov (kI 0))]) (.seq (.seq (.reg [ oT 5 (.mov (.tmp 0)), oT 6 (.len (.tmp 5)), oT 7 (.bin .eql (.tmp 6) (kI 0))]) (.ite (.tmp 7) (.seq (.reg [ oT 4 (.mov (kI 0))]) (.ret)) (.skip))) (.seq (.reg [ oT 8 (.mov (.tmp 0)), oT 9 (.mov (.tmp 1)), oT 10 (.mov (.tmp 0)), oT 11 (.len (.tmp 10)), oT 12 (.bin .rem (.tmp 9) (.tmp 11)), oT 13 (.iadr 1 none (.tmp 8) (.tmp 12)), oT 14 (.load (.tmp 13) none), oT 4 (.mov (.tmp 14))]) (.ret)))⟩
def body49_0 : IL := .seq (.seq (.reg [ oT 5 (.mov (.tmp 4)), oT 6 (.mov (.tmp 0)), oT 7 (.len (.tmp 6)), oT 8 (.bin .lss (.tmp 5) (.tmp 7)), oT 9 (.mov (.tmp 8)), ⟨(some 10), (some (9, true)), .mov (.tmp 4)⟩, ⟨(some 11), (some (9, true)), .bin .lss (.tmp 10) (kI 10)⟩, oT 12 (.pick (.tmp 9) (.tmp 11) (.const (.bool false)))]) (.ite (.tmp 12) (.skip) (.exit 0))) (.seq (.block 1 (.reg [ oT 15 (.mov (.tmp 3)), oT 16 (.mov (.tmp 4)), oT 17 (.bin .mul (kI 2) (.tmp 16)), oT 18 (.bin .add (.tmp 17) (kI 1)), oT 19 (.mov (.tmp 0)), oT 20 (.mov (.tmp 4)), oT 21 (.iadr 1 none (.tmp 19) (.tmp 20)), oT 22 (.load (.tmp 21) none), oT 23 (.call 30 [(.tmp 22), (kI 0), (kI 100000)]), oT 24 (.build [(.int .i64 0), (.int .i64 0)] [(0, 1, (.tmp 18)), (1, 1, (.tmp 23))]), oT 25 (.mkrow [(.int .i64 0), (.int .i64 0)] 1 [(0, 2, (.tmp 24))]), oT 26 (.append 2 16 (.tmp 15) (.tmp 25)), oT 3 (.mov (.tmp 26))])) (.reg [ oT 13 (.mov (.tmp 4)), oT 14 (.bin .add (.tmp 13) (kI 1)), oT 4 (.mov (.tmp 14))]))
def il49 : FnIL := ⟨28, [.tmp 2], .seq (.reg [ oT 2 (.mov (.const (.slice none 0 0)))]) (.seq (.reg [ oT 3 (.mov (.const (.slice none 0 0)))]) (.seq (.seq (.reg [ oT 4 (.mov (kI 0))]) (.block 0 (.loop (body49_0)))) (.seq (.reg [ oT 27 (.mov (.tmp 3)), oT 2 (.mov (.tmp 27))]) (.ret))))⟩
theorem st76 : stF Try.prog qt 76 = some il76 := by kernel_rfl
theorem tree76a (aa : Option Addr) (na ca : Nat) (i : Int) (H : Heap) : fnS tblK (gE 0) (cE 0) 100 il76 (.yes .nil) [(rS aa na ca), (sI i)] [.seg H] =
(.req ((na : Int) == 0) (.ret .ret [(sI 0)] [.seg H])) := by kernel_rfl
theorem tree76b (aa : Option Addr) (na ca : Nat) (i x0 : Int) (b1 o1 : Nat) (H : Heap) : fnS tblK (gE 0) (cE 0) 100 il76 (.no (.pur 22000013 (.pointer (some ⟨b1, o1, none⟩)) (.bas 7000014 (.int .i64 x0) .nil))) [(rS aa na ca), (sI i)] [.seg H] =
(.req (!((na : Int) == 0)) (.req (!(decide ((na : Int) = 0))) (.claim (opA (Plain.env tblK (gE 0)) (.iadr 1 none (.const (.slice aa na ca)) (.const (.int .i64 (Int.tmod i (na : Int))))) [] [] = some ((.pointer (some ⟨b1, o1, none⟩)), []))
 (.claim (opA (Plain.env tblK (gE 0)) (.load (.const (.pointer (some ⟨b1, o1, none⟩))) none) [] H = some ((.int .i64 x0), H))
 (.ret .ret [(sI x0)] [.seg H]))))) := by kernel_rfl
theorem st49 : stF Try.prog qt 49 = some il49 := by kernel_rfl
theorem tree49t (aa al a2 : Option Addr) (na ca nl cl n2 c2 : Nat) (i x0 : Int) (b1 o1 : Nat) (H J J2 X : Heap) : (fun (Z0 : SV) => (fun (Z1 : SFr) => (fun (Z2 : SH) => (fun (Z3 : SH) => pieceS tblK (gE 0) (cE 0) 100 (fun i => exL i body49_0 || inL [2, 3] i) body49_0 (.join 3 (.con (.con (.con .nil))) (.con (.con (.con .nil))) (.sym (.pur 22000021 (.pointer (some ⟨b1, o1, none⟩)) (.bas 7000022 (.int .i64 x0) (.use 30000026 (rS a2 n2 c2) ⟨[(1, .seg J2)], [.seg X]⟩ .nil))) .nil)) Z1 [.seg H, .seg J] =
(.req (bif (decide (i < (na : Int))) then true else true) (.br (bif (decide (i < (na : Int))) then (decide (i < 10)) else false)
 (.claim (opA (Plain.env tblK (gE 0)) (.iadr 1 none (.const (.slice aa na ca)) (kI i)) [] [] = some ((.pointer (some ⟨b1, o1, none⟩)), []))
 (.claim (opA (Plain.env tblK (gE 0)) (.load (.const (.pointer (some ⟨b1, o1, none⟩))) none) [] H = some ((.int .i64 x0), H))
 (.req (preWithin 0 100000) (.claim (List.length J2 = List.length J) (.claim (opA (Plain.env tblK (gE 0)) (.append 2 16 (.const (.slice al nl cl)) (.const (denV (ofs Z3) (.sl 2 0 1 1)))) [] (denH Z3) = some ((.slice a2 n2 c2), denH Z2))
 (.ret .normal (frS 28 [(0, (rS aa na ca)), (2, nS), (3, (rS a2 n2 c2)), (4, (sI (IntKind.wrap .i64 (i + 1))))]) Z2))))))
 (.ret (.exit 0) Z1 [.seg H, .seg J])))) [.seg H, .seg J, .blk .fix [Z0, (sI (wn x0 0 100000))]]) [.seg H, .seg J2, .blk .fix [Z0, (sI (wn x0 0 100000))], .seg X]) (frS 28 [(0, (rS aa na ca)), (2, nS), (3, (rS al nl cl)), (4, (sI i))])) (sI (IntKind.wrap .i64 ((IntKind.wrap .i64 (2 * i)) + 1))) := by show _ = _; kernel_rfl
theorem tree49 (aa al : Option Addr) (na ca nl cl : Nat) (H X : Heap) : fnS tblK (gE 0) (cE 0) 100 il49 (.lp 0 [2, 3] (frS 28 [(2, nS), (3, (rS al nl cl))]) ⟨[], [.seg X]⟩ .nil) [(rS aa na ca)] [.seg H] =
(.claim (Wp (Plain.env tblK (gE 0)) (inL [2, 3]) (.block 0 (.loop body49_0)) (denF [.seg H] (frS 28 [(0, (rS aa na ca)), (2, nS), (3, nS), (4, (sI 0))])) (denH [.seg H]) fun e_ s_ h_ => e_ = .normal ∧ s_ = denF [.seg H, .seg X] (frS 28 [(2, nS), (3, (rS al nl cl))]) ∧ h_ = denH [.seg H, .seg X])
 (.ret .ret [(rS al nl cl)] [.seg H, .seg X])) := by kernel_rfl
end E0
open E0
def pk (l : List Int) (i : Nat) : Int := if h : l.length = 0 then 0 else l[i % l.length]'(Nat.mod_lt _ (by omega))
def pre76 (x : List Int × Nat) (args : List Value) (h : Heap) : Prop := ∃ s, args = [s, .int .i64 (x.2 : Int)] ∧ RowsW 1 h s (x.1.map ir) ∧ x.2 ≤ 1099511627776
theorem call76 {l : List Int} {i : Nat} {s : Value} {h : Heap} (hs : RowsW 1 h s (l.map ir)) (hi : i ≤ 1099511627776) : smry pre76 (fun x h => (.int .i64 (pk x.1 x.2), h)) [s, .int .i64 (i : Int)] h = some (.int .i64 (pk l i), h) :=
 smry_some (x := (l, i)) ⟨s, rfl, hs, hi⟩ fun y ⟨s', e, hs', _⟩ => by
  simp only [List.cons.injEq, Value.int.injEq, true_and, and_true] at e
  obtain ⟨rfl, e⟩ := e
  rw [ir_inj (hs'.uniq hs), show y.2 = i by omega]
theorem sim76 : Summ Try.prog 76 (smry pre76 fun x h => (.int .i64 (pk x.1 x.2), h)) := smry_ok fun y args H ⟨s, e, hs, hi⟩ => by
 subst e
 obtain ⟨l, i⟩ := y
 obtain ⟨aa, ca, rfl⟩ := hs.slcM
 refine Sim.plain (R := fun v => v = .int .i64 (pk l i)) ?_ (fun v hv => by subst hv; rfl)
 by_cases h0 : l.length = 0
 ·have := fnS_tree (Q := fun v h' => v = .int .i64 (pk l i) ∧ ∃ X, h' = H ++ X) mixed (gE_ok 0) (gE_q 0) (cE_ok 0) st76 (tree76a aa l.length ca i H) ⟨rfl, rfl⟩ ⟨by simp [h0], by rw [pk, dif_pos h0]; rfl, [], by simp [denH, denL, It.den]⟩
  simpa [denH, denL, It.den, denF, denV, denA, den0] using this
 ·have hm : i % l.length < l.length := Nat.mod_lt _ (by omega)
  obtain ⟨b1, o1, r1⟩ := hs.rowM (i := i % l.length) (x := l[i % l.length]) (List.getElem?_eq_getElem hm)
  have ei : Int.tmod (i : Int) (l.length : Int) = ((i % l.length : Nat) : Int) := (Int.ofNat_tmod i l.length).symm
  have := fnS_tree (Q := fun v h' => v = .int .i64 (pk l i) ∧ ∃ X, h' = H ++ X) mixed (gE_ok 0) (gE_q 0) (cE_ok 0) st76 (tree76b aa l.length ca i l[i % l.length] b1 o1 H) ⟨rfl, rfl⟩ ⟨by simp [h0], by simp [h0], by rw [ei]; exact r1.ptr _ _, r1.one _, by rw [pk, dif_neg h0]; rfl, [], by simp [denH, denL, It.den]⟩
  simpa [denH, denL, It.den, denF, denV, denA, den0] using this
def loansG : Nat → List Int → List R2
 | _, [] => []
 | i, x :: r => ⟨2 * i + 1, wn x 0 100000⟩ :: loansG (i + 1) r
def loansF (l : List Int) : List R2 := loansG 0 (l.take 10)
theorem loansG_len : ∀ (l : List Int) (i : Nat), (loansG i l).length = l.length
 | [], _ => rfl
 | x :: r, i => by simp [loansG, loansG_len r]
theorem loansG_snoc : ∀ (l : List Int) (i : Nat) (x : Int), loansG i (l ++ [x]) = loansG i l ++ [⟨2 * (i + l.length : Nat) + 1, wn x 0 100000⟩]
 | [], i, x => by simp [loansG]
 | y :: r, i, x => by
  simp only [List.cons_append, loansG, loansG_snoc r (i + 1) x, List.length_cons]
  rw [show i + 1 + r.length = i + (r.length + 1) by omega]
theorem loop49 {H : Heap} {aa : Option Addr} {ca : Nat} {l : List Int} (ha : RowsW 1 H (.slice aa l.length ca) (l.map ir)) :
  Wp (Plain.env tblK (gE 0)) (inL [2, 3]) (.block 0 (.loop body49_0)) (denF [.seg H] (frS 28 [(0, (rS aa l.length ca)), (2, nS), (3, nS), (4, (sI 0))])) (denH [.seg H]) fun e s h => ∃ (X : Heap) (al : Option Addr) (nl cl : Nat), (e = .normal ∧ s = denF [.seg H, .seg X] (frS 28 [(2, nS), (3, (rS al nl cl))]) ∧ h = denH [.seg H, .seg X]) ∧ LsS 2 H X (.slice al nl cl) ((loansF l).map e2) := by
 refine Wp.bl (fun m t h => ∃ (i : Nat) (J : Heap) (al : Option Addr) (cl : Nat), i + m = min l.length 10 ∧ t = denF [.seg H, .seg J] (frS 28 [(0, (rS aa l.length ca)), (2, nS), (3, (rS al i cl)), (4, (sI i))]) ∧ h = denH [.seg H, .seg J] ∧ LsS 2 H J (.slice al i cl) ((loansG 0 (l.take i)).map e2)) ?_ (min l.length 10) _ _
  ⟨0, [], none, 0, by omega, by show denF _ _ = denF _ _; kernel_rfl, by simp [denH, denL, It.den], .inl ⟨rfl, rfl⟩⟩
 rintro m t h ⟨i, J, al, cl, hi, rfl, rfl, hl⟩
 by_cases hlt : i < min l.length 10
 ·obtain ⟨x, hx⟩ := getE (show i < l.length by omega)
  obtain ⟨b1, o1, r1⟩ := ha.rowM hx
  have e1 : IntKind.wrap .i64 (IntKind.wrap .i64 (2 * (i : Int)) + 1) = 2 * (i : Int) + 1 := by rw [wrap64 (x := 2 * (i : Int)) (by omega) (by omega), wrap64 (by omega) (by omega)]
  have hlen : (loansG 0 (l.take i)).length = i := by rw [loansG_len, List.length_take]; omega
  obtain ⟨v, J2, X, q1, q2, q3⟩ := hl.app (w := 2) (eby := 16) (R := [some ⟨.fix, [.int .i64 (2 * (i : Int) + 1), .int .i64 (wn x 0 100000)]⟩]) (x := .slice (some ⟨H.length + (J.length + 0), 0, none⟩) 1 1) (new := [e2 ⟨2 * (i : Int) + 1, wn x 0 100000⟩]) (src_item (I := [.seg H, .seg J, .blk .fix [sI (2 * (i : Int) + 1), sI (wn x 0 100000)]]) (k := 2) (o := 0) (n := 1) (c := 1) (w := 2) rfl (by simp)) (by simp [e2]) (by decide) (by simp [hlen]; omega) (by simp [hlen]; omega)
  obtain ⟨a2, c2, rfl⟩ := q3.slc
  have hn2 : (List.map e2 (loansG 0 (l.take i)) ++ [e2 ⟨2 * (i : Int) + 1, wn x 0 100000⟩]).length = i + 1 := by simp [hlen]
  rw [hn2] at q2 q3
  refine Wp.tree (cE_ok 0) (tree49t aa al a2 l.length ca i cl (i + 1) c2 i x b1 o1 H J J2 X) ⟨rfl, rfl⟩ ⟨by simp, fun _ => ⟨r1.ptr _ _, r1.one _, rfl, q1, by rw [e1]; simpa [denH, denL, It.den, den0, denV, denA, ofs, It.len] using q2 (Plain.env tblK (gE 0)), end_next (m - 1) (by omega) ?_⟩, fun q => by simp [show i < l.length by omega] at q; omega⟩
  rw [e1]
  refine ⟨i + 1, J2 ++ ([some ⟨.fix, [.int .i64 (2 * (i : Int) + 1), .int .i64 (wn x 0 100000)]⟩] ++ X), a2, c2, by omega, ?_, by simp [denH, denL, It.den, den0], ?_⟩
  ·rw [wrap64 (x := (i : Int) + 1) (by omega) (by omega)]; show denF _ _ = denF _ _; kernel_rfl
  ·rw [WB.take_one hx, loansG_snoc, List.length_take, Nat.min_eq_left (by omega), Nat.zero_add, List.map_append]
   exact q3
 ·have hil : i = min l.length 10 := by omega
  refine Wp.tree (cE_ok 0) (tree49t aa al al l.length ca i cl 0 0 i 0 0 0 H J J J) ⟨rfl, rfl⟩ ⟨by simp, fun q => by (simp [Bool.cond_eq_ite] at q; omega), fun _ => end_exit ⟨J, al, i, cl, ⟨rfl, by show denF _ _ = denF _ _; kernel_rfl, rfl⟩, ?_⟩⟩
  have : l.take i = l.take 10 := by
   rw [hil]
   rcases Nat.le_total l.length 10 with h | h
   ·rw [Nat.min_eq_left h, List.take_length, List.take_of_length_le h]
   ·rw [Nat.min_eq_right h]
  rw [this] at hl
  exact hl
theorem sum49 : Summ Try.prog 49 (runE (Plain.env tblK (gE 0)) il49) := Summ.runE mixed (gE_ok 0) (gE_q 0) st49
theorem run49 {I : SH} (hI : I.all (It.bnd I.length) = true) {s : Value} {l : List Int} (hs : RowsW 1 (denH I) s (l.map ir)) : ∃ a n c X, runE (Plain.env tblK (gE 0)) il49 [s] (denH I) = some (.slice a n c, denH (I ++ [.seg X])) ∧ LsS 2 (denH I) X (.slice a n c) ((loansF l).map e2) := by
 obtain ⟨aa, ca, rfl⟩ := hs.slcM
 obtain ⟨e, t1, h1, ⟨X, al, nl, cl, ⟨rfl, rfl, rfl⟩, hl⟩, w⟩ := (loop49 hs).exact
 obtain ⟨v, h', r, ⟨rfl, rfl⟩⟩ := fnS_run (Q := fun v h' => v = .slice al nl cl ∧ h' = denH I ++ X) (cE_ok 0) (tree49 aa al l.length ca nl cl (denH I) X) ⟨rfl, rfl⟩ ⟨w, rfl, by simp [denH, denL, It.den]⟩
 refine ⟨al, nl, cl, X, ?_, hl⟩
 rw [denH_snoc I hI]
 have e0 : denH [.seg (denH I)] = denH I := by simp [denH, denL, It.den]
 rw [e0] at r
 exact r
end K
end Go.Proofs.Ytgdojnamjkhknaa
