/-
  word: a reader of whole numbers.
-/
import Derived.Test.YtgdojnamjkhknaaQdWFn
import Derived.Test.YtgdojnamjkhknaaQdLl
namespace Go.Proofs.Ytgdojnamjkhknaa
open Go.Am
set_option linter.all false
set_option maxRecDepth 100000
namespace RD
def nx (l : List Int) (bad : Bool) : Int × List Int × Bool := if bad then (0, l, true) else match l with
 | [] => (0, [], true)
 | x :: r => (x, r, false)
def mny (m : Int) (l : List Int) (bad : Bool) : Int × List Int × Bool := if (nx l bad).1 < 0 ∨ (nx l bad).1 > m then (0, (nx l bad).2.1, true) else nx l bad
def doneB (l : List Int) (bad : Bool) : Bool := !bad && l.isEmpty
abbrev rdB (v : Value) (bad : Bool) : It := .blk .fix [.raw v, sB bad]
theorem ofs_mid (I1 I2 : SH) {x y : It} (h : x.len = y.len) : ofs (I1 ++ x :: I2) = ofs (I1 ++ y :: I2) := by
 funext k
 have := off_set (x := y) (y := x) (I1 ++ y :: I2) I1.length (by simp) h k
 simpa using this
theorem denH_rd {I1 : SH} (hI : I1.all (It.bnd I1.length) = true) (I2 : SH) (v : Value) (b : Bool) : denH (I1 ++ rdB v b :: I2) = denH I1 ++ some ⟨.fix, [v, .bool b]⟩ :: denL (ofs (I1 ++ .raw none :: I2)) I2 := by
 rw [denH_app hI, ofs_mid I1 I2 (x := rdB v b) (y := .raw none) rfl]
 simp [denL, It.den, den0]
theorem ptr_rd {I1 I2 : SH} (x : It) : denV (ofs (I1 ++ x :: I2)) (.ptr I1.length 0) = .pointer (some ⟨(denH I1).length, 0, none⟩) := by
 simp only [denV, denA, den0, off_app _ _ _ (Nat.le_refl _), denH_len]
theorem all_snoc {I : SH} (hI : I.all (It.bnd I.length) = true) (X : Heap) : (I ++ [It.seg X]).all (It.bnd (I ++ [It.seg X]).length) = true := by
 rw [List.all_append, List.length_append]
 refine Bool.and_eq_true_iff.2 ⟨List.all_eq_true.2 fun i hi => ?_, rfl⟩
 have := List.all_eq_true.1 hI i hi
 cases i with
 | blk kd cs => exact all_up (bnd0_up (by simp)) this
 | raw b => rfl
 | seg S => rfl
namespace N
open WB (gE cE gE_ok gE_q cE_ok)
def il29 : FnIL := ⟨34, [.tmp 2], .seq (.reg [ oT 2 (.mov (kI 0))]) (.seq (.seq (.reg [ oT 4 (.mov (.tmp 0)), oT 5 (.nilck (.tmp 4)), oT 6 (.fadr 1 (.tmp 5)), oT 7 (.load (.tmp 6) none), oT 8 (.mov (.tmp 7)), ⟨(some 9), (some (8, false)), .mov (.tmp 0)⟩, ⟨(some 10), (some (8, false)), .nilck (.tmp 9)⟩, ⟨(some 11), (some (8, false)), .fadr 0 (.tmp 10)⟩, ⟨(some 12), (some (8, false)), .load (.tmp 11) none⟩, ⟨(some 13), (some (8, false)), .len (.tmp 12)⟩, ⟨(some 14), (some (8, false)), .bin .eql (.tmp 13) (kI 0)⟩, oT 15 (.pick (.tmp 8) (.const (.bool true)) (.tmp 14))]) (.ite (.tmp 15) (.seq (.reg [ oT 16 (.mov (.tmp 0)), oT 17 (.nilck (.tmp 16)), oT 18 (.fadr 1 (.tmp 17)), oN (.store (.tmp 18) (.const (.bool true)) 1)]) (.seq (.reg [ oT 2 (.mov (kI 0))]) (.ret))) (.skip))) (.seq (.reg [ oT 19 (.mov (.tmp 0)), oT 20 (.nilck (.tmp 19)), oT 21 (.fadr 0 (.tmp 20)), oT 22 (.load (.tmp 21) none), oT 23 (.iadr 1 none (.tmp 22) (kI 0)), oT 24 (.load (.tmp 23) none), oT 3 (.mov (.tmp 24))]) (.seq (.reg [ oT 25 (.mov (.tmp 0)), oT 26 (.mov (.tmp 0)), oT 27 (.nilck (.tmp 26)), oT 28 (.fadr 0 (.tmp 27)), oT 29 (.load (.tmp 28) none), oT 30 (.slice 1 (.tmp 29) (some (kI 1)) none none), oT 31 (.nilck (.tmp 25)), oT 32 (.fadr 0 (.tmp 31)), oN (.store (.tmp 32) (.tmp 30) 1)]) (.seq (.reg [ oT 33 (.mov (.tmp 3)), oT 2 (.mov (.tmp 33))]) (.ret)))))⟩
theorem st29 : stF Try.prog qt 29 = some il29 := by kernel_rfl
theorem tree29e (sa : Option Addr) (n c : Nat) (bad : Bool) (x : Int) (s2 : Option Addr) (n2 c2 : Nat) (b1 o1 : Nat) (A B : Heap) : fnS [] (gE 0) (cE 0) 100 il29 (.join 7 (.con (.con (.con (.con (.con (.con (.con .nil))))))) (.con (.con (.con (.con (.con (.con (.con .nil))))))) (.yes .nil)) [(.ptr 1 0)] [.seg A, .blk .fix [(rS sa n c), (sB bad)], .seg B] =
(.req (bif bad then true else true) (.req (bif bad then true else ((n : Int) == 0)) (.ret .ret [(sI 0)] [.seg A, .blk .fix [(rS sa n c), (sB true)], .seg B]))) := by kernel_rfl
theorem tree29k (sa : Option Addr) (n c : Nat) (bad : Bool) (x : Int) (s2 : Option Addr) (n2 c2 : Nat) (b1 o1 : Nat) (A B : Heap) : (fun (Z0 : SH) => fnS [] (gE 0) (cE 0) 100 il29 (.join 7 (.con (.con (.con (.con (.con (.con (.con .nil))))))) (.con (.con (.con (.con (.con (.con (.con .nil))))))) (.no (.pur 22000023 (.pointer (some ⟨b1, o1, none⟩)) (.use 7000024 (sI x) ⟨[], []⟩ (.use 17000030 (rS s2 n2 c2) ⟨[], []⟩ .nil))))) [(.ptr 1 0)] Z0 =
(.req (bif bad then true else true) (.req (!(bif bad then true else ((n : Int) == 0))) (.claim (opA (Plain.env [] (gE 0)) (.iadr 1 none (.const (.slice sa n c)) (kI 0)) [] [] = some ((.pointer (some ⟨b1, o1, none⟩)), []))
 (.claim (opA (Plain.env [] (gE 0)) (.load (.const (.pointer (some ⟨b1, o1, none⟩))) none) [] (denH Z0) = some ((.int .i64 x), denH Z0))
 (.claim (opA (Plain.env [] (gE 0)) (.slice 1 (.const (.slice sa n c)) (some (kI 1)) none none) [] (denH Z0) = some ((.slice s2 n2 c2), denH Z0))
 (.ret .ret [(sI x)] [.seg A, .blk .fix [(rS s2 n2 c2), (sB bad)], .seg B]))))))) [.seg A, .blk .fix [(rS sa n c), (sB bad)], .seg B] := by show _ = _; kernel_rfl
def il28 : FnIL := ⟨16, [.tmp 2], .seq (.reg [ oT 2 (.mov (.const (.bool false)))]) (.seq (.reg [ oT 3 (.mov (.tmp 0)), oT 4 (.nilck (.tmp 3)), oT 5 (.fadr 1 (.tmp 4)), oT 6 (.load (.tmp 5) none), oT 7 (.un .not (.tmp 6)), oT 8 (.mov (.tmp 7)), ⟨(some 9), (some (8, true)), .mov (.tmp 0)⟩, ⟨(some 10), (some (8, true)), .nilck (.tmp 9)⟩, ⟨(some 11), (some (8, true)), .fadr 0 (.tmp 10)⟩, ⟨(some 12), (some (8, true)), .load (.tmp 11) none⟩, ⟨(some 13), (some (8, true)), .len (.tmp 12)⟩, ⟨(some 14), (some (8, true)), .bin .eql (.tmp 13) (kI 0)⟩, oT 15 (.pick (.tmp 8) (.tmp 14) (.const (.bool false))), oT 2 (.mov (.tmp 15))]) (.ret))⟩
theorem st28 : stF Try.prog qt 28 = some il28 := by kernel_rfl
theorem tree28 (sa : Option Addr) (n c : Nat) (bad : Bool) (x : Int) (s2 : Option Addr) (n2 c2 : Nat) (b1 o1 : Nat) (A B : Heap) : fnS [] (gE 0) (cE 0) 100 il28 (.join 7 (.con (.con (.con (.con (.con (.con (.con .nil))))))) (.con (.con (.con (.con (.con (.con (.con .nil))))))) .nil) [(.ptr 1 0)] [.seg A, .blk .fix [(rS sa n c), (sB bad)], .seg B] =
(.req (bif (!bad) then true else true) (.ret .ret [(sB (bif (!bad) then ((n : Int) == 0) else false))] [.seg A, .blk .fix [(rS sa n c), (sB bad)], .seg B])) := by kernel_rfl
theorem bif_t {a b : Bool} : (bif a then true else b) = true ↔ a = true ∨ b = true := by cases a <;> simp
theorem bif_f {a b : Bool} : (bif a then true else b) = false ↔ a = false ∧ b = false := by cases a <;> simp
theorem sum29 : Summ Try.prog 29 (runE (Plain.env [] (gE 0)) il29) := Summ.runE mixed (gE_ok 0) (gE_q 0) st29
theorem sum28 : Summ Try.prog 28 (runE (Plain.env [] (gE 0)) il28) := Summ.runE mixed (gE_ok 0) (gE_q 0) st28
theorem run29 {A B : Heap} {v : Value} {l : List Int} {bad : Bool} (h : RowsW 1 A v (l.map ir)) : ∃ v2, RowsW 1 A v2 ((nx l bad).2.1.map ir) ∧
  runE (Plain.env [] (gE 0)) il29 [.pointer (some ⟨A.length, 0, none⟩)] (A ++ some ⟨.fix, [v, .bool bad]⟩ :: B) = some (.int .i64 (nx l bad).1, A ++ some ⟨.fix, [v2, .bool (nx l bad).2.2]⟩ :: B) := by
 obtain ⟨sa, c, rfl⟩ := h.slcM
 by_cases hq : bad = true ∨ l = []
 ·refine ⟨.slice sa l.length c, ?_, ?_⟩
  ·have : (nx l bad).2.1 = l := by rcases hq with rfl | rfl <;> simp [nx]
   rw [this]; exact h
  ·obtain ⟨v, h', r, rfl, rfl⟩ := fnS_run (Q := fun v h' => v = .int .i64 0 ∧ h' = A ++ some ⟨.fix, [.slice sa l.length c, .bool true]⟩ :: B) (cE_ok 0) (tree29e sa l.length c bad 0 none 0 0 0 0 A B) ⟨rfl, rfl⟩ ⟨bif_tt _, by rcases hq with rfl | rfl <;> simp, rfl, by simp [denH, denL, It.den, den0]⟩
   have e : nx l bad = (0, l, true) := by rcases hq with rfl | rfl <;> simp [nx]
   rw [e]
   simpa [denF, denH, denL, It.den, denV, denA, den0, ofs, It.len, off] using r
 ·have hb : bad = false := by cases bad <;> simp_all
  subst hb
  match l, h, hq with
  | [], _, hq => exact absurd (.inr rfl) hq
  | x :: r, h, _ =>
   have eA : denH [.seg A, .blk .fix [(rS sa (x :: r).length c), (sB false)], .seg B] = A ++ (some ⟨.fix, [.slice sa (x :: r).length c, .bool false]⟩ :: B) := by simp [denH, denL, It.den, den0]
   have hA : RowsW 1 (denH [.seg A, .blk .fix [(rS sa (x :: r).length c), (sB false)], .seg B]) (.slice sa (x :: r).length c) ((x :: r).map ir) := by rw [eA]; exact h.app _
   obtain ⟨b1, o1, r1⟩ := hA.rowM (i := 0) (x := x) rfl
   obtain ⟨v3, hcut3, h3⟩ := h.cutM (lo := 1) (hi := (x :: r).length) (by simp) (Nat.le_refl _) (some (kI 1)) none (.inr rfl) (.inl ⟨rfl, rfl⟩)
   rw [List.take_length, List.drop_one, List.tail_cons] at h3
   obtain ⟨s3, c3, rfl⟩ := h3.slcM
   have hcut : opA (Plain.env [] (gE 0)) (.slice 1 (.const (.slice sa (x :: r).length c)) (some (kI 1)) none none) [] (denH [.seg A, .blk .fix [(rS sa (x :: r).length c), (sB false)], .seg B]) = some (.slice s3 r.length c3, denH [.seg A, .blk .fix [(rS sa (x :: r).length c), (sB false)], .seg B]) := by
    rw [eA]; exact slice_more (hcut3 _) _
   refine ⟨_, h3, ?_⟩
   obtain ⟨v, h', rr, rfl, rfl⟩ := fnS_run (Q := fun v h' => v = .int .i64 x ∧ h' = A ++ some ⟨.fix, [.slice s3 r.length c3, .bool false]⟩ :: B) (cE_ok 0) (tree29k sa (x :: r).length c false x s3 r.length c3 b1 o1 A B) ⟨rfl, rfl⟩ ⟨rfl, by simp; omega, r1.ptr _ _, r1.one _, hcut, rfl, by simp [denH, denL, It.den, den0]⟩
   simpa [denF, denH, denL, It.den, denV, denA, den0, ofs, It.len, off, nx] using rr
theorem use29 {I1 : SH} (hI : I1.all (It.bnd I1.length) = true) (I2 : SH) {v : Value} {l : List Int} {bad : Bool} (h : RowsW 1 (denH I1) v (l.map ir)) : ∃ v2, RowsW 1 (denH I1) v2 ((nx l bad).2.1.map ir) ∧
  runE (Plain.env [] (gE 0)) il29 [denV (ofs (I1 ++ rdB v bad :: I2)) (.ptr I1.length 0)] (denH (I1 ++ rdB v bad :: I2)) = some (.int .i64 (nx l bad).1, denH (I1 ++ rdB v2 (nx l bad).2.2 :: I2)) := by
 obtain ⟨v2, h2, r⟩ := run29 (B := denL (ofs (I1 ++ .raw none :: I2)) I2) (bad := bad) h
 refine ⟨v2, h2, ?_⟩
 rw [ptr_rd, denH_rd hI, denH_rd hI]
 exact r
theorem use28 {I1 : SH} (hI : I1.all (It.bnd I1.length) = true) (I2 : SH) {v : Value} {l : List Int} {bad : Bool} (h : RowsW 1 (denH I1) v (l.map ir)) :
  runE (Plain.env [] (gE 0)) il28 [denV (ofs (I1 ++ rdB v bad :: I2)) (.ptr I1.length 0)] (denH (I1 ++ rdB v bad :: I2)) = some (.bool (doneB l bad), denH (I1 ++ rdB v bad :: I2)) := by
 obtain ⟨sa, c, rfl⟩ := h.slcM
 rw [ptr_rd, denH_rd hI]
 obtain ⟨A, eA⟩ : ∃ A, A = denH I1 := ⟨_, rfl⟩
 obtain ⟨B, eB⟩ : ∃ B, B = denL (ofs (I1 ++ .raw none :: I2)) I2 := ⟨_, rfl⟩
 rw [← eA, ← eB]
 obtain ⟨v, h', r, rfl, rfl⟩ := fnS_run (Q := fun v h' => v = .bool (doneB l bad) ∧ h' = A ++ some ⟨.fix, [.slice sa l.length c, .bool bad]⟩ :: B) (cE_ok 0) (tree28 sa l.length c bad 0 none 0 0 0 0 A B) ⟨rfl, rfl⟩ ⟨bif_tt _, by
  show Value.bool _ = _
  congr 1
  cases bad <;> cases l <;> simp [doneB]
  omega, by simp [denH, denL, It.den, den0]⟩
 simpa [denF, denH, denL, It.den, denV, denA, den0, ofs, It.len, off] using r
end N
noncomputable def gM : Env := fun f => match f with
 | 29 => runE (Plain.env [] (WB.gE 0)) N.il29
 | _ => fun _ _ => none
theorem gM_ok : EnvOk Try.prog gM := fun f => by
 unfold gM
 split
 ·exact N.sum29
 ·exact fun args h v h' e => by cases e
theorem gM_q : QuietEnv qt gM := fun f args h v h' hf e => by cases hf
namespace M
noncomputable abbrev gE (k : Nat) : Env := inE [] [] k gM
noncomputable abbrev cE (k : Nat) : CallS := callS [] [] gM 100 k
theorem gE_q (k : Nat) : QuietEnv qt (Plain.env [] (gE k)) := Plain.quiet (inE_quiet gM_q (fun f F h => by cases h) k)
theorem gE_ok (k : Nat) : EnvOk Try.prog (Plain.env [] (gE k)) := Plain.ok .nil (inE_ok (qt := qt) mixed .nil .nil (fun f F h => by cases h) gM_ok gM_q k)
theorem cE_ok (k : Nat) : CallOk (Plain.env [] (gE k)) (cE k) := callS_ok k
def il25 : FnIL := ⟨19, [.tmp 4], .seq (.reg [ oT 4 (.mov (kI 0))]) (.seq (.reg [ oT 6 (.mov (.tmp 0)), oT 7 (.call 29 [(.tmp 6)]), oT 5 (.mov (.tmp 7))]) (.seq (.seq (.reg [ oT 8 (.mov (.tmp 5)), oT 9 (.bin .lss (.tmp 8) (kI 0)), oT 10 (.mov (.tmp 9)), ⟨(some 11), (some (10, false)), .mov (.tmp 5)⟩, ⟨(some 12), (some (10, false)), .mov (.tmp 1)⟩, ⟨(some 13), (some (10, false)), .bin .gtr (.tmp 11) (.tmp 12)⟩, oT 14 (.pick (.tmp 10) (.const (.bool true)) (.tmp 13))]) (.ite (.tmp 14) (.seq (.reg [ oT 15 (.mov (.tmp 0)), oT 16 (.nilck (.tmp 15)), oT 17 (.fadr 1 (.tmp 16)), oN (.store (.tmp 17) (.const (.bool true)) 1)]) (.seq (.reg [ oT 4 (.mov (kI 0))]) (.ret))) (.skip))) (.seq (.reg [ oT 18 (.mov (.tmp 5)), oT 4 (.mov (.tmp 18))]) (.ret))))⟩
theorem st25 : stF Try.prog qt 25 = some il25 := by kernel_rfl
theorem tree25e (bad b2 : Bool) (x m : Int) (v v2 : Value) (A B : Heap) : (fun (Z0 : SH) => fnS [] (gE 0) (cE 0) 100 il25 (.use 26000007 (sI x) ⟨[(1, .blk .fix [(.raw v2), (sB b2)])], []⟩ (.join 4 (.con (.con (.con (.con .nil)))) (.con (.con (.con (.con .nil)))) (.yes .nil))) [(.ptr 1 0), (sI m)] Z0 =
(.claim (opA (Plain.env [] (gE 0)) (.call 29 [(.const (denV (ofs Z0) (.ptr 1 0)))]) [] (denH Z0) = some ((.int .i64 x), denH [.seg A, .blk .fix [(.raw v2), (sB b2)], .seg B]))
 (.req (bif (decide (x < 0)) then true else true) (.req (bif (decide (x < 0)) then true else (decide (x > m))) (.ret .ret [(sI 0)] [.seg A, .blk .fix [(.raw v2), (sB true)], .seg B]))))) [.seg A, .blk .fix [(.raw v), (sB bad)], .seg B] := by show _ = _; kernel_rfl
theorem tree25k (bad b2 : Bool) (x m : Int) (v v2 : Value) (A B : Heap) : (fun (Z0 : SH) => (fun (Z1 : SH) => fnS [] (gE 0) (cE 0) 100 il25 (.use 26000007 (sI x) ⟨[(1, .blk .fix [(.raw v2), (sB b2)])], []⟩ (.join 4 (.con (.con (.con (.con .nil)))) (.con (.con (.con (.con .nil)))) (.no .nil))) [(.ptr 1 0), (sI m)] Z0 =
(.claim (opA (Plain.env [] (gE 0)) (.call 29 [(.const (denV (ofs Z0) (.ptr 1 0)))]) [] (denH Z0) = some ((.int .i64 x), denH Z1))
 (.req (bif (decide (x < 0)) then true else true) (.req (!(bif (decide (x < 0)) then true else (decide (x > m)))) (.ret .ret [(sI x)] Z1))))) [.seg A, .blk .fix [(.raw v2), (sB b2)], .seg B]) [.seg A, .blk .fix [(.raw v), (sB bad)], .seg B] := by show _ = _; kernel_rfl
theorem sum25 : Summ Try.prog 25 (runE (Plain.env [] (gE 0)) il25) := Summ.runE mixed (gE_ok 0) (gE_q 0) st25
theorem use25 {I1 : SH} (hI : I1.all (It.bnd I1.length) = true) (I2 : SH) {v : Value} {l : List Int} {bad : Bool} (m : Int) (h : RowsW 1 (denH I1) v (l.map ir)) : ∃ v2, RowsW 1 (denH I1) v2 ((mny m l bad).2.1.map ir) ∧
  runE (Plain.env [] (gE 0)) il25 [denV (ofs (I1 ++ rdB v bad :: I2)) (.ptr I1.length 0), .int .i64 m] (denH (I1 ++ rdB v bad :: I2)) = some (.int .i64 (mny m l bad).1, denH (I1 ++ rdB v2 (mny m l bad).2.2 :: I2)) := by
 rw [ptr_rd]
 obtain ⟨A, eA⟩ : ∃ A, A = denH I1 := ⟨_, rfl⟩
 obtain ⟨B, eB⟩ : ∃ B, B = denL (ofs (I1 ++ .raw none :: I2)) I2 := ⟨_, rfl⟩
 have h0 : RowsW 1 (denH [.seg A]) v (l.map ir) := by simpa [denH, denL, It.den, eA] using h
 obtain ⟨v2, h2, r⟩ := N.use29 (I1 := [.seg A]) rfl [.seg B] (bad := bad) h0
 have h2' : RowsW 1 (denH I1) v2 ((nx l bad).2.1.map ir) := by simpa [denH, denL, It.den, eA] using h2
 by_cases hq : (nx l bad).1 < 0 ∨ (nx l bad).1 > m
 ·have em : mny m l bad = (0, (nx l bad).2.1, true) := by unfold mny; rw [if_pos hq]
  rw [em]
  refine ⟨v2, h2', ?_⟩
  rw [denH_rd hI, denH_rd hI, ← eA, ← eB]
  obtain ⟨w, h', rr, rfl, rfl⟩ := fnS_run (Q := fun w h' => w = .int .i64 0 ∧ h' = A ++ some ⟨.fix, [v2, .bool true]⟩ :: B) (cE_ok 0) (tree25e bad (nx l bad).2.2 (nx l bad).1 m v v2 A B) ⟨rfl, rfl⟩ ⟨opA_call (args := [_]) rfl r, bif_tt _, by
   rcases hq with q | q
   ·simp [q]
   ·rw [N.bif_t]; right; simpa using q, rfl, by simp [denH, denL, It.den, den0]⟩
  simpa [denF, denH, denL, It.den, denV, denA, den0, ofs, It.len, off] using rr
 ·have em : mny m l bad = nx l bad := by unfold mny; rw [if_neg hq]
  rw [em]
  refine ⟨v2, h2', ?_⟩
  rw [denH_rd hI, denH_rd hI, ← eA, ← eB]
  obtain ⟨w, h', rr, rfl, rfl⟩ := fnS_run (Q := fun w h' => w = .int .i64 (nx l bad).1 ∧ h' = A ++ some ⟨.fix, [v2, .bool (nx l bad).2.2]⟩ :: B) (cE_ok 0) (tree25k bad (nx l bad).2.2 (nx l bad).1 m v v2 A B) ⟨rfl, rfl⟩ ⟨opA_call (args := [_]) rfl r, bif_tt _, by
   have : (bif decide ((nx l bad).1 < 0) then true else decide ((nx l bad).1 > m)) = false := by
    rw [N.bif_f]; simp; omega
   rw [this]; rfl, rfl, by simp [denH, denL, It.den, den0]⟩
  simpa [denF, denH, denL, It.den, denV, denA, den0, ofs, It.len, off] using rr
end M
namespace R
def il24 : FnIL := ⟨7, [.tmp 2], .seq (.reg [ oT 2 (.mov (.const (.pointer none)))]) (.seq (.reg [ oT 3 (.mov (.tmp 0)), oT 4 (.call 70 [(.tmp 3)]), oT 5 (.build [(.slice none 0 0), (.bool false)] [(0, 1, (.tmp 4))]), oT 6 (.box (.tmp 5)), oT 2 (.mov (.tmp 6))]) (.ret))⟩
theorem st24 : stF Try.prog qt 24 = some il24 := by kernel_rfl
def il70 : FnIL := ⟨8, [.tmp 2], .seq (.reg [ oT 2 (.mov (.const (.slice none 0 0)))]) (.seq (.seq (.reg [ oT 3 (.mov (.tmp 0)), oT 4 (.eqv false .slc (.tmp 3) (.const (.slice none 0 0)))]) (.ite (.tmp 4) (.seq (.reg [ oT 2 (.mov (.const (.slice none 0 0)))]) (.ret)) (.skip))) (.seq (.reg [ oT 5 (.mkrow [] 0 []), oT 6 (.mov (.tmp 0)), oT 7 (.append 1 8 (.tmp 5) (.tmp 6)), oT 2 (.mov (.tmp 7))]) (.ret)))⟩
theorem st70 : stF Try.prog qt 70 = some il70 := by kernel_rfl
abbrev inl : Tab := [(70, il70)]
theorem inl_ok : TabOk Try.prog qt inl := .cons st70 .nil
noncomputable abbrev gE (k : Nat) : Env := inE [] inl k noEnv
noncomputable abbrev cE (k : Nat) : CallS := callS [] inl noEnv 100 k
theorem noq : noQt qt inl := fun f F h => rfl
theorem gE_q (k : Nat) : QuietEnv qt (Plain.env [] (gE k)) := Plain.quiet (inE_quiet noEnv_quiet noq k)
theorem gE_ok (k : Nat) : EnvOk Try.prog (Plain.env [] (gE k)) := Plain.ok .nil (inE_ok (qt := qt) mixed .nil inl_ok noq noEnv_ok noEnv_quiet k)
theorem cE_ok (k : Nat) : CallOk (Plain.env [] (gE k)) (cE k) := callS_ok k
theorem tree24n (H : Heap) : fnS [] (gE 1) (cE 1) 100 il24 (.pur 11000004 (.bool true) (.con .nil)) [nS] [.seg H] =
(.claim (opA (Plain.env [] (gE 0)) (.eqv false .slc (.const (.slice none 0 0)) (.const (.slice none 0 0))) [] [] = some ((.bool true), []))
 (.ret .ret [(.ptr 1 0)] [.seg H, .blk .fix [nS, (sB false)]])) := by kernel_rfl
theorem tree24s (a : Addr) (a2 : Option Addr) (n c n2 c2 : Nat) (H X : Heap) : fnS [] (gE 1) (cE 1) 100 il24 (.pur 11000004 (.bool false) (.con (.use 30000007 (rS a2 n2 c2) ⟨[], [.seg X]⟩ .nil))) [(rS (some a) n c)] [.seg H] =
(.claim (opA (Plain.env [] (gE 0)) (.eqv false .slc (.const (.slice (some a) n c)) (.const (.slice none 0 0))) [] [] = some ((.bool false), []))
 (.claim (opA (Plain.env [] (gE 0)) (.append 1 8 (.const (denV (ofs [.seg H, .blk .fix []]) (.sl 1 0 0 0))) (.const (.slice (some a) n c))) [] (denH [.seg H, .blk .fix []]) = some ((.slice a2 n2 c2), denH [.seg H, .blk .fix [], .seg X]))
 (.ret .ret [(.ptr 3 0)] [.seg H, .blk .fix [], .seg X, .blk .fix [(rS a2 n2 c2), (sB false)]]))) := by kernel_rfl
theorem sum24 : Summ Try.prog 24 (runE (Plain.env [] (gE 1)) il24) := Summ.runE mixed (gE_ok 1) (gE_q 1) st24
theorem use24 {I : SH} (hI : I.all (It.bnd I.length) = true) {s : Value} {l : List Int} (hs : RowsW 1 (denH I) s (l.map ir)) (hn : l.length ≤ 1000000) :
  ∃ v X, RowsW 1 (denH (I ++ [.seg X])) v (l.map ir) ∧ runE (Plain.env [] (gE 1)) il24 [s] (denH I) = some (denV (ofs (I ++ [.seg X, rdB v false])) (.ptr (I.length + 1) 0), denH (I ++ [.seg X, rdB v false])) := by
 have key : ∀ v X, RowsW 1 (denH (I ++ [.seg X])) v (l.map ir) → runE (Plain.env [] (gE 1)) il24 [s] (denH I) = some (.pointer (some ⟨(denH I ++ X).length, 0, none⟩), denH I ++ (X ++ [some ⟨.fix, [v, .bool false]⟩])) →
   ∃ v X, RowsW 1 (denH (I ++ [.seg X])) v (l.map ir) ∧ runE (Plain.env [] (gE 1)) il24 [s] (denH I) = some (denV (ofs (I ++ [.seg X, rdB v false])) (.ptr (I.length + 1) 0), denH (I ++ [.seg X, rdB v false])) := fun v X h r => by
  refine ⟨v, X, h, ?_⟩
  have e1 := ptr_rd (I1 := I ++ [.seg X]) (I2 := []) (rdB v false)
  have hI2 : (I ++ [It.seg X]).all (It.bnd (I ++ [It.seg X]).length) = true := all_snoc hI X
  have e2 := denH_rd hI2 [] v false
  simp only [List.append_assoc, List.singleton_append, List.length_append, List.length_singleton, denH_snoc I hI] at e1 e2
  rw [e1, e2, r]
  simp [denL]
 obtain ⟨sa, c, rfl⟩ := hs.slcM
 cases sa with
 | none =>
  rcases hs with ⟨q, hl⟩ | ⟨_, _, _, _, q, _⟩
  ·simp only [Value.slice.injEq, true_and] at q
   refine key (.slice none 0 0) [] (by rw [hl]; exact .inl ⟨rfl, rfl⟩) ?_
   obtain ⟨w, h', rr, rfl, rfl⟩ := fnS_run (Q := fun w h' => w = .pointer (some ⟨(denH I).length, 0, none⟩) ∧ h' = denH I ++ [some ⟨.fix, [.slice none 0 0, .bool false]⟩]) (cE_ok 1) (tree24n (denH I)) ⟨rfl, rfl⟩ ⟨rfl, by simp [denV, denA, den0, ofs, It.len], by simp [denH, denL, It.den, den0]⟩
   rw [q.1, q.2]
   simpa [denF, denH, denL, It.den, denV, denA, den0, ofs, It.len, off] using rr
  ·cases q
 | some a =>
  obtain ⟨a2, c2, X, g2, l2⟩ := appNew (I := [.seg (denH I)]) rfl (eby := 8) (by simpa [denH, denL, It.den] using hs) (ir_w _) (by decide) (by simp; omega) (by simp; omega)
  rw [List.length_map] at g2 l2
  have e0 : denH [.seg (denH I)] = denH I := by simp [denH, denL, It.den]
  refine key (.slice (some a2) l.length c2) (some ⟨.fix, []⟩ :: X) ?_ ?_
  ·rw [denH_snoc I hI]
   have := l2.rows (by decide) []
   rw [List.append_nil, e0] at this
   exact this
  ·obtain ⟨w, h', rr, rfl, rfl⟩ := fnS_run (Q := fun w h' => w = .pointer (some ⟨(denH I ++ (some ⟨.fix, []⟩ :: X)).length, 0, none⟩) ∧ h' = denH I ++ (some ⟨.fix, []⟩ :: X ++ [some ⟨.fix, [.slice (some a2) l.length c2, .bool false]⟩])) (cE_ok 1) (tree24s a (some a2) l.length c l.length c2 (denH I) X) ⟨rfl, rfl⟩ ⟨eqv_nil ⟨_, _, _, rfl⟩ _, g2 _, by simp [denV, denA, den0, ofs, It.len], by simp [denH, denL, It.den, den0]⟩
   simpa [denF, denH, denL, It.den, denV, denA, den0, ofs, It.len, off] using rr
end R
end RD
end Go.Proofs.Ytgdojnamjkhknaa
