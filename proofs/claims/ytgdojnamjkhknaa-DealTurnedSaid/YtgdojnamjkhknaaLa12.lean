/-
  The law DealTurned.
-/
import Derived.Test.YtgdojnamjkhknaaLa11
namespace Go.Proofs.Ytgdojnamjkhknaa
open Go.Am
set_option linter.all false
set_option maxRecDepth 100000
namespace L
namespace T
open K (KV KW kVal dealF DlA At kB dB sumB sumB_b sumO)
open D (DV DlW dVal preD rightB stpF ntF)
open D.A (pre1 pre1_u anyL lnF lnG)
def body10_0 : IL := .seq (.reg [ oT 25 (.bin .lss (.tmp 24) (.tmp 23))]) (.seq (.ite (.tmp 25) (.skip) (.exit 0)) (.seq (.block 1 (.seq (.reg [ oT 26 (.iadr 2 none (.tmp 22) (.tmp 24)), oT 27 (.load (.tmp 26) (some 2)), oT 11 (.alloc [(.int .i64 0), (.int .i64 0)]), oN (.store (.tmp 11) (.tmp 27) 2)]) (.reg [ oT 28 (.mov (.tmp 8)), oT 29 (.fadr 1 (.tmp 11)), oT 30 (.load (.tmp 29) none), oT 31 (.bin .add (.tmp 28) (.tmp 30)), oT 8 (.mov (.tmp 31))]))) (.reg [ oT 32 (.bin .add (.tmp 24) (kI 1)), oT 24 (.mov (.tmp 32))])))
def hn10a (what by_ s_ i x0 x1 : Int) (al : Option Addr) (nl cl b1 o1 : Nat) (q1 q3 : Option Blk) (H D J : Heap) : Hs := (.sym (.pur 22000026 (.pointer (some ⟨b1, o1, none⟩)) (.use 7000027 (.raw (.agg ⟨[(.int .i64 x0), (.int .i64 x1)]⟩)) ⟨[], []⟩ .nil)) .nil)
theorem tree10a (what by_ s_ i x0 x1 : Int) (al : Option Addr) (nl cl b1 o1 : Nat) (q1 q3 : Option Blk) (H D J : Heap) : pieceS tblL (gE 0) (cE 0) 100 (fun i => exL i body10_0 || inL [1, 2, 6, 7, 8, 9] i) body10_0 (hn10a what by_ s_ i x0 x1 al nl cl b1 o1 q1 q3 H D J) (frS 235 [(1, (sI what)), (2, (sI by_)), (6, (sB false)), (7, (.ptr 3 0)), (8, (sI s_)), (9, (sI 0)), (22, (rS al nl cl)), (23, (sI (nl : Int))), (24, (sI i))]) [.seg H, .raw q1, .seg D, .raw q3, .seg J] =
(.br (decide (i < (nl : Int)))
 (.claim (opA (Plain.env tblL (gE 0)) (.iadr 2 none (.const (.slice al nl cl)) (kI i)) [] [] = some ((.pointer (some ⟨b1, o1, none⟩)), []))
 (.claim (opA (Plain.env tblL (gE 0)) (.load (.const (.pointer (some ⟨b1, o1, none⟩))) (some 2)) [] (denH [.seg H, .raw q1, .seg D, .raw q3, .seg J]) = some ((.agg ⟨[(.int .i64 x0), (.int .i64 x1)]⟩), denH [.seg H, .raw q1, .seg D, .raw q3, .seg J]))
 (.ret .normal (frS 235 [(1, (sI what)), (2, (sI by_)), (6, (sB false)), (7, (.ptr 3 0)), (8, (sI (IntKind.wrap .i64 (s_ + x1)))), (9, (sI 0)), (22, (rS al nl cl)), (23, (sI (nl : Int))), (24, (sI (IntKind.wrap .i64 (i + 1))))]) [.seg H, .raw q1, .seg D, .raw q3, .seg J, .blk .fix [(sI x0), (sI x1)]])))
 (.ret (.exit 0) (frS 235 [(1, (sI what)), (2, (sI by_)), (6, (sB false)), (7, (.ptr 3 0)), (8, (sI s_)), (9, (sI 0)), (22, (rS al nl cl)), (23, (sI (nl : Int))), (24, (sI i))]) [.seg H, .raw q1, .seg D, .raw q3, .seg J])) := by kernel_rfl
def body10_2 : IL := .seq (.reg [ oT 37 (.bin .lss (.tmp 36) (.tmp 35))]) (.seq (.ite (.tmp 37) (.skip) (.exit 2)) (.seq (.block 3 (.seq (.reg [ oT 38 (.iadr 3 none (.tmp 34) (.tmp 36)), oT 39 (.load (.tmp 38) (some 3)), oT 13 (.alloc [(.int .i64 0), (.int .i64 0), (.int .i64 0)]), oN (.store (.tmp 13) (.tmp 39) 3)]) (.reg [ oT 40 (.mov (.tmp 9)), oT 41 (.fadr 1 (.tmp 13)), oT 42 (.load (.tmp 41) none), oT 43 (.bin .add (.tmp 40) (.tmp 42)), oT 9 (.mov (.tmp 43))]))) (.reg [ oT 44 (.bin .add (.tmp 36) (kI 1)), oT 36 (.mov (.tmp 44))])))
def hn10b (what by_ pool s_ i x0 x1 x2 : Int) (al : Option Addr) (nl cl b1 o1 : Nat) (q1 q3 : Option Blk) (H D J0 J : Heap) : Hs := (.sym (.pur 22000038 (.pointer (some ⟨b1, o1, none⟩)) (.use 7000039 (.raw (.agg ⟨[(.int .i64 x0), (.int .i64 x1), (.int .i64 x2)]⟩)) ⟨[], []⟩ .nil)) .nil)
theorem tree10b (what by_ pool s_ i x0 x1 x2 : Int) (al : Option Addr) (nl cl b1 o1 : Nat) (q1 q3 : Option Blk) (H D J0 J : Heap) : pieceS tblL (gE 0) (cE 0) 100 (fun i => exL i body10_2 || inL [1, 2, 6, 7, 8, 9] i) body10_2 (hn10b what by_ pool s_ i x0 x1 x2 al nl cl b1 o1 q1 q3 H D J0 J) (frS 235 [(1, (sI what)), (2, (sI by_)), (6, (sB false)), (7, (.ptr 3 0)), (8, (sI pool)), (9, (sI s_)), (34, (rS al nl cl)), (35, (sI (nl : Int))), (36, (sI i))]) [.seg H, .raw q1, .seg D, .raw q3, .seg J0, .seg J] =
(.br (decide (i < (nl : Int)))
 (.claim (opA (Plain.env tblL (gE 0)) (.iadr 3 none (.const (.slice al nl cl)) (kI i)) [] [] = some ((.pointer (some ⟨b1, o1, none⟩)), []))
 (.claim (opA (Plain.env tblL (gE 0)) (.load (.const (.pointer (some ⟨b1, o1, none⟩))) (some 3)) [] (denH [.seg H, .raw q1, .seg D, .raw q3, .seg J0, .seg J]) = some ((.agg ⟨[(.int .i64 x0), (.int .i64 x1), (.int .i64 x2)]⟩), denH [.seg H, .raw q1, .seg D, .raw q3, .seg J0, .seg J]))
 (.ret .normal (frS 235 [(1, (sI what)), (2, (sI by_)), (6, (sB false)), (7, (.ptr 3 0)), (8, (sI pool)), (9, (sI (IntKind.wrap .i64 (s_ + x1)))), (34, (rS al nl cl)), (35, (sI (nl : Int))), (36, (sI (IntKind.wrap .i64 (i + 1))))]) [.seg H, .raw q1, .seg D, .raw q3, .seg J0, .seg J, .blk .fix [(sI x0), (sI x1), (sI x2)]])))
 (.ret (.exit 2) (frS 235 [(1, (sI what)), (2, (sI by_)), (6, (sB false)), (7, (.ptr 3 0)), (8, (sI pool)), (9, (sI s_)), (34, (rS al nl cl)), (35, (sI (nl : Int))), (36, (sI i))]) [.seg H, .raw q1, .seg D, .raw q3, .seg J0, .seg J])) := by kernel_rfl
theorem inE_no {T : Plain} {B : Tab} {Γ : Env} {f : Nat} (h : B.find f = none) : ∀ k, inE T B k Γ f = Γ f
  | 0 => rfl
  | k + 1 => by funext args hp; simp only [inE, h]
theorem loop0 {H D : Heap} {q1 q3 : Option Blk} {what by_ : Int} {al : Option Addr} {cl : Nat} {l : List R2} (ha : RowsW 2 (denH [.seg H, .raw q1, .seg D, .raw q3]) (.slice al l.length cl) (l.map e2)) (hl : l.length ≤ 100) (hb : ∀ i, i ≤ l.length → -100000000 ≤ sumB (l.take i) ∧ sumB (l.take i) ≤ 100000000) :
    Wp (Plain.env tblL (gE 0)) (inL [1, 2, 6, 7, 8, 9]) (.block 0 (.loop body10_0)) (denF [.seg H, .raw q1, .seg D, .raw q3] (frS 235 [(1, (sI what)), (2, (sI by_)), (6, (sB false)), (7, (.ptr 3 0)), (8, (sI 0)), (9, (sI 0)), (22, (rS al l.length cl)), (23, (sI (l.length : Int))), (24, (sI 0))])) (denH [.seg H, .raw q1, .seg D, .raw q3]) fun e s h => ∃ X : Heap, e = .normal ∧ s = denF [.seg H, .raw q1, .seg D, .raw q3, .seg X] (frS 235 [(1, (sI what)), (2, (sI by_)), (6, (sB false)), (7, (.ptr 3 0)), (8, (sI (sumB l))), (9, (sI 0))]) ∧ h = denH [.seg H, .raw q1, .seg D, .raw q3, .seg X] := by
  refine Wp.bl (fun m t h => ∃ (i : Nat) (J : Heap), i + m = l.length ∧ t = denF [.seg H, .raw q1, .seg D, .raw q3, .seg J] (frS 235 [(1, (sI what)), (2, (sI by_)), (6, (sB false)), (7, (.ptr 3 0)), (8, (sI (sumB (l.take i)))), (9, (sI 0)), (22, (rS al l.length cl)), (23, (sI (l.length : Int))), (24, (sI i))]) ∧ h = denH [.seg H, .raw q1, .seg D, .raw q3, .seg J]) ?_ l.length _ _
    ⟨0, [], by omega, by show denF _ _ = denF _ _; kernel_rfl, by simp [denH, denL, It.den, den0, e2, e3]⟩
  rintro m t h ⟨i, J, hi, rfl, rfl⟩
  by_cases hlt : i < l.length
  · obtain ⟨x, hx⟩ := getE hlt
    have hJ : RowsW 2 (denH [.seg H, .raw q1, .seg D, .raw q3, .seg J]) (.slice al l.length cl) (l.map e2) := ha.up (X := [.seg J]) rfl
    obtain ⟨b1, o1, r1⟩ := hJ.rowM hx
    have h2 := hb (i + 1) (by omega)
    have hs : sumB (l.take (i + 1)) = sumB (l.take i) + x.b := by rw [WB.take_one hx]; simp [sumB]
    refine Wp.tree (cE_ok 0) (tree10a what by_ (sumB (l.take i)) i x.a x.b al l.length cl b1 o1 q1 q3 H D J) ⟨rfl, rfl⟩ ⟨fun _ => ⟨r1.ptr _ _, r1.all _, end_next (m - 1) (by omega) ⟨i + 1, J ++ [some ⟨.fix, e2 x⟩], by omega, ?_, by simp [denH, denL, It.den, den0, e2, e3]⟩⟩, fun q => by simp at q; omega⟩
    rw [hs] at h2 ⊢
    rw [wrap64 (x := (i : Int) + 1) (by omega) (by omega), wrap64 (x := sumB (l.take i) + x.b) (by omega) (by omega)]
    show denF _ _ = denF _ _
    kernel_rfl
  · have hil : i = l.length := by omega
    refine Wp.tree (cE_ok 0) (tree10a what by_ (sumB (l.take i)) i 0 0 al l.length cl 0 0 q1 q3 H D J) ⟨rfl, rfl⟩ ⟨fun q => by simp at q; omega, fun _ => end_exit ⟨J, rfl, ?_, rfl⟩⟩
    rw [hil, List.take_length]
    show denF _ _ = denF _ _
    kernel_rfl
theorem loop2 {H D J0 : Heap} {q1 q3 : Option Blk} {what by_ pool : Int} {al : Option Addr} {cl : Nat} {l : List R3} (ha : RowsW 3 (denH [.seg H, .raw q1, .seg D, .raw q3, .seg J0]) (.slice al l.length cl) (l.map e3)) (hl : l.length ≤ 100) (hb : ∀ i, i ≤ l.length → -100000000 ≤ sumO (l.take i) ∧ sumO (l.take i) ≤ 100000000) :
    Wp (Plain.env tblL (gE 0)) (inL [1, 2, 6, 7, 8, 9]) (.block 2 (.loop body10_2)) (denF [.seg H, .raw q1, .seg D, .raw q3, .seg J0] (frS 235 [(1, (sI what)), (2, (sI by_)), (6, (sB false)), (7, (.ptr 3 0)), (8, (sI pool)), (9, (sI 0)), (34, (rS al l.length cl)), (35, (sI (l.length : Int))), (36, (sI 0))])) (denH [.seg H, .raw q1, .seg D, .raw q3, .seg J0]) fun e s h => ∃ X : Heap, e = .normal ∧ s = denF [.seg H, .raw q1, .seg D, .raw q3, .seg J0, .seg X] (frS 235 [(1, (sI what)), (2, (sI by_)), (6, (sB false)), (7, (.ptr 3 0)), (8, (sI pool)), (9, (sI (sumO l)))]) ∧ h = denH [.seg H, .raw q1, .seg D, .raw q3, .seg J0, .seg X] := by
  refine Wp.bl (fun m t h => ∃ (i : Nat) (J : Heap), i + m = l.length ∧ t = denF [.seg H, .raw q1, .seg D, .raw q3, .seg J0, .seg J] (frS 235 [(1, (sI what)), (2, (sI by_)), (6, (sB false)), (7, (.ptr 3 0)), (8, (sI pool)), (9, (sI (sumO (l.take i)))), (34, (rS al l.length cl)), (35, (sI (l.length : Int))), (36, (sI i))]) ∧ h = denH [.seg H, .raw q1, .seg D, .raw q3, .seg J0, .seg J]) ?_ l.length _ _
    ⟨0, [], by omega, by show denF _ _ = denF _ _; kernel_rfl, by simp [denH, denL, It.den, den0, e2, e3]⟩
  rintro m t h ⟨i, J, hi, rfl, rfl⟩
  by_cases hlt : i < l.length
  · obtain ⟨x, hx⟩ := getE hlt
    have hJ : RowsW 3 (denH [.seg H, .raw q1, .seg D, .raw q3, .seg J0, .seg J]) (.slice al l.length cl) (l.map e3) := ha.up (X := [.seg J]) rfl
    obtain ⟨b1, o1, r1⟩ := hJ.rowM hx
    have h2 := hb (i + 1) (by omega)
    have hs : sumO (l.take (i + 1)) = sumO (l.take i) + x.b := by rw [WB.take_one hx]; simp [sumO]
    refine Wp.tree (cE_ok 0) (tree10b what by_ pool (sumO (l.take i)) i x.a x.b x.c al l.length cl b1 o1 q1 q3 H D J0 J) ⟨rfl, rfl⟩ ⟨fun _ => ⟨r1.ptr _ _, r1.all _, end_next (m - 1) (by omega) ⟨i + 1, J ++ [some ⟨.fix, e3 x⟩], by omega, ?_, by simp [denH, denL, It.den, den0, e2, e3]⟩⟩, fun q => by simp at q; omega⟩
    rw [hs] at h2 ⊢
    rw [wrap64 (x := (i : Int) + 1) (by omega) (by omega), wrap64 (x := sumO (l.take i) + x.b) (by omega) (by omega)]
    show denF _ _ = denF _ _
    kernel_rfl
  · have hil : i = l.length := by omega
    refine Wp.tree (cE_ok 0) (tree10b what by_ pool (sumO (l.take i)) i 0 0 0 al l.length cl 0 0 q1 q3 H D J0 J) ⟨rfl, rfl⟩ ⟨fun q => by simp at q; omega, fun _ => end_exit ⟨J, rfl, ?_, rfl⟩⟩
    rw [hil, List.take_length]
    show denF _ _ = denF _ _
    kernel_rfl
end T
end L
end Go.Proofs.Ytgdojnamjkhknaa
