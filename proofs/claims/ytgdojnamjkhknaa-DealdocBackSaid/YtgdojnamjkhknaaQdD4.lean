/-
  deal: the document's own answer to which steps may be a mode's is the same.
-/
import Derived.Test.YtgdojnamjkhknaaQdD3
namespace Go.Proofs.Ytgdojnamjkhknaa
open Go.Am
set_option linter.all false
set_option maxRecDepth 100000
namespace D
namespace Q
open WB (gE cE gE_ok gE_q cE_ok)
open A (tupIB pre1 pre1_u anyL)
def body77_2 : IL := .seq (.reg [ oT 55 (.bin .lss (.tmp 54) (.tmp 53))]) (.seq (.ite (.tmp 55) (.skip) (.exit 2)) (.seq (.block 3 (.seq (.reg [ oT 56 (.iadr 2 none (.tmp 52) (.tmp 54)), oT 57 (.load (.tmp 56) (some 2)), oT 6 (.alloc [(.int .i64 0), (.int .i64 0)]), oN (.store (.tmp 6) (.tmp 57) 2)]) (.seq (.reg [ oT 58 (.load (.tmp 6) (some 2)), oT 59 (.load (.tmp 4) (some 2)), oT 60 (.eqv false (.cells [false, false]) (.tmp 58) (.tmp 59))]) (.ite (.tmp 60) (.seq (.reg [ oT 2 (.mov (.const (.bool false)))]) (.ret)) (.skip))))) (.reg [ oT 61 (.bin .add (.tmp 54) (kI 1)), oT 54 (.mov (.tmp 61))])))
def body77_0 : IL := .seq (.reg [ oT 18 (.bin .lss (.tmp 17) (.tmp 16))]) (.seq (.ite (.tmp 18) (.skip) (.exit 0)) (.seq (.block 1 (.seq (.reg [ oT 19 (.mov (.tmp 17)), oT 20 (.iadr 2 none (.tmp 15) (.tmp 17)), oT 21 (.load (.tmp 20) (some 2)), oT 4 (.alloc [(.int .i64 0), (.int .i64 0)]), oT 3 (.mov (.tmp 19)), oN (.store (.tmp 4) (.tmp 21) 2)]) (.seq (.seq (.reg [ oT 22 (.fadr 0 (.tmp 4)), oT 23 (.load (.tmp 22) none), oT 24 (.bin .lss (.tmp 23) (kI 1)), oT 25 (.mov (.tmp 24)), ⟨(some 26), (some (25, false)), .fadr 0 (.tmp 4)⟩, ⟨(some 27), (some (25, false)), .load (.tmp 26) none⟩, ⟨(some 28), (some (25, false)), .bin .gtr (.tmp 27) (kI 7)⟩, oT 29 (.pick (.tmp 25) (.const (.bool true)) (.tmp 28)), oT 30 (.mov (.tmp 29)), ⟨(some 31), (some (30, false)), .fadr 0 (.tmp 4)⟩, ⟨(some 32), (some (30, false)), .load (.tmp 31) none⟩, ⟨(some 33), (some (30, false)), .bin .neq (.tmp 32) (kI 3)⟩, ⟨(some 34), (some (30, false)), .mov (.tmp 33)⟩, ⟨(some 35), (some (34, true)), .fadr 1 (.tmp 4)⟩, ⟨(some 36), (some (34, true)), .load (.tmp 35) none⟩, ⟨(some 37), (some (34, true)), .bin .neq (.tmp 36) (kI 0)⟩, ⟨(some 38), (some (30, false)), .pick (.tmp 34) (.tmp 37) (.const (.bool false))⟩, oT 39 (.pick (.tmp 30) (.const (.bool true)) (.tmp 38)), oT 40 (.mov (.tmp 39)), ⟨(some 41), (some (40, false)), .fadr 1 (.tmp 4)⟩, ⟨(some 42), (some (40, false)), .load (.tmp 41) none⟩, ⟨(some 43), (some (40, false)), .bin .lss (.tmp 42) (kI 0)⟩, oT 44 (.pick (.tmp 40) (.const (.bool true)) (.tmp 43)), oT 45 (.mov (.tmp 44)), ⟨(some 46), (some (45, false)), .fadr 1 (.tmp 4)⟩, ⟨(some 47), (some (45, false)), .load (.tmp 46) none⟩, ⟨(some 48), (some (45, false)), .bin .geq (.tmp 47) (kI 8)⟩, oT 49 (.pick (.tmp 45) (.const (.bool true)) (.tmp 48))]) (.ite (.tmp 49) (.seq (.reg [ oT 2 (.mov (.const (.bool false)))]) (.ret)) (.skip))) (.seq (.reg [ oT 50 (.mov (.tmp 0)), oT 51 (.mov (.tmp 3)), oT 52 (.slice 2 (.tmp 50) none (some (.tmp 51)) none), oT 53 (.len (.tmp 52)), oT 54 (.mov (kI 0))]) (.block 2 (.loop (body77_2))))))) (.reg [ oT 62 (.bin .add (.tmp 17) (kI 1)), oT 17 (.mov (.tmp 62))])))
def il77 : FnIL := ⟨63, [.tmp 2], .seq (.reg [ oT 2 (.mov (.const (.bool false)))]) (.seq (.seq (.reg [ oT 7 (.mov (.tmp 0)), oT 8 (.len (.tmp 7)), oT 9 (.bin .lss (.tmp 8) (kI 1)), oT 10 (.mov (.tmp 9)), ⟨(some 11), (some (10, false)), .mov (.tmp 0)⟩, ⟨(some 12), (some (10, false)), .len (.tmp 11)⟩, ⟨(some 13), (some (10, false)), .bin .gtr (.tmp 12) (kI 16)⟩, oT 14 (.pick (.tmp 10) (.const (.bool true)) (.tmp 13))]) (.ite (.tmp 14) (.seq (.reg [ oT 2 (.mov (.const (.bool false)))]) (.ret)) (.skip))) (.seq (.seq (.reg [ oT 15 (.mov (.tmp 0)), oT 16 (.len (.tmp 15)), oT 17 (.mov (kI 0))]) (.block 0 (.loop (body77_0)))) (.seq (.reg [ oT 2 (.mov (.const (.bool true)))]) (.ret))))⟩
theorem st77 : stF Try.prog qt 77 = some il77 := by kernel_rfl
theorem tree77i (aa ad : Option Addr) (na ca nd cd : Nat) (i k x0 x1 y0 y1 : Int) (b1 o1 : Nat) (H J K : Heap) : (fun (Z0 : SFr) => (fun (Z1 : SH) => (fun (Z2 : SH) => (fun (Z3 : Value) => pieceS [] (gE 0) (cE 0) 100 (fun i => exL i body77_2 || inL [0, 2, 15, 16, 17] i) body77_2 (.sym (.pur 22000056 (.pointer (some ⟨b1, o1, none⟩)) (.bas 7000057 Z3 (.sym .nil .nil))) .nil) Z0 Z2 =
(.br (decide (k < (nd : Int)))
 (.claim (opA (Plain.env [] (gE 0)) (.iadr 2 none (.const (.slice ad nd cd)) (kI k)) [] [] = some ((.pointer (some ⟨b1, o1, none⟩)), []))
 (.claim (opA (Plain.env [] (gE 0)) (.load (.const (.pointer (some ⟨b1, o1, none⟩))) (some 2)) [] H = some (Z3, H))
 (.br ((y0 == x0) && ((y1 == x1) && true))
 (.ret .ret Z0 Z1)
 (.ret .normal (frS 63 [(0, (rS aa na ca)), (2, (sB false)), (4, (.ptr 2 0)), (15, (rS aa na ca)), (16, (sI (na : Int))), (17, (sI i)), (52, (rS ad nd cd)), (53, (sI (nd : Int))), (54, (sI (IntKind.wrap .i64 (k + 1))))]) Z1))))
 (.ret (.exit 2) Z0 Z2))) (.agg ⟨[(.int .i64 y0), (.int .i64 y1)]⟩)) [.seg H, .seg J, .blk .fix [(sI x0), (sI x1)], .seg K]) [.seg H, .seg J, .blk .fix [(sI x0), (sI x1)], .seg K, .blk .fix [(sI y0), (sI y1)]]) (frS 63 [(0, (rS aa na ca)), (2, (sB false)), (4, (.ptr 2 0)), (15, (rS aa na ca)), (16, (sI (na : Int))), (17, (sI i)), (52, (rS ad nd cd)), (53, (sI (nd : Int))), (54, (sI k))]) := by show _ = _; kernel_rfl
theorem tree77t (aa ad : Option Addr) (na ca nd cd : Nat) (i x0 x1 : Int) (q : Bool) (b1 o1 : Nat) (H J K : Heap) : (fun (Z0 : SFr) => (fun (Z1 : SH) => (fun (Z2 : SH) => (fun (Z3 : Value) => pieceS [] (gE 0) (cE 0) 100 (fun i => exL i body77_0 || inL [2] i) body77_0 (.sym (.pur 22000020 (.pointer (some ⟨b1, o1, none⟩)) (.bas 7000021 Z3 (.join 4 (.con (.con (.con (.con .nil)))) (.con (.con (.con (.con .nil)))) (.join 9 (.con (.con (.con (.con (.con (.con (.con (.con (.con .nil))))))))) (.con (.con (.con (.con (.join 4 (.con (.con (.con (.con (.con .nil))))) (.con (.con (.con (.con (.con .nil))))) (.con .nil)))))) (.join 4 (.con (.con (.con (.con .nil)))) (.con (.con (.con (.con .nil)))) (.join 4 (.con (.con (.con (.con .nil)))) (.con (.con (.con (.con .nil)))) (.sym .nil (.bas 17000052 (.slice ad nd cd) (.lp2 2 [0, 2, 15, 16, 17] q Z0 ⟨[], [.seg K]⟩ Z0 ⟨[], [.seg K]⟩ .nil .nil))))))))) .nil) Z0 [.seg H, .seg J] =
(.br (decide (i < (na : Int)))
 (.claim (opA (Plain.env [] (gE 0)) (.iadr 2 none (.const (.slice aa na ca)) (kI i)) [] [] = some ((.pointer (some ⟨b1, o1, none⟩)), []))
 (.claim (opA (Plain.env [] (gE 0)) (.load (.const (.pointer (some ⟨b1, o1, none⟩))) (some 2)) [] H = some (Z3, H))
 (.req (bif (decide (x0 < 1)) then true else true) (.req (bif (bif (decide (x0 < 1)) then true else (decide (x0 > 7))) then true else ((bif (x0 != 3) then true else true) && true)) (.req (bif (bif (bif (decide (x0 < 1)) then true else (decide (x0 > 7))) then true else (bif (x0 != 3) then (x1 != 0) else false)) then true else true) (.req (bif (bif (bif (bif (decide (x0 < 1)) then true else (decide (x0 > 7))) then true else (bif (x0 != 3) then (x1 != 0) else false)) then true else (decide (x1 < 0))) then true else true) (.br (bif (bif (bif (bif (decide (x0 < 1)) then true else (decide (x0 > 7))) then true else (bif (x0 != 3) then (x1 != 0) else false)) then true else (decide (x1 < 0))) then true else (decide (x1 ≥ 8)))
 (.ret .ret Z0 Z2)
 (.claim (opA (Plain.env [] (gE 0)) (.slice 2 (.const (.slice aa na ca)) none (some (kI i)) none) [] H = some ((.slice ad nd cd), H))
 (.claim (Wp (Plain.env [] (gE 0)) (inL [0, 2, 15, 16, 17]) (.block 2 (.loop body77_2)) (denF Z2 (frS 63 [(0, (rS aa na ca)), (2, (sB false)), (4, (.ptr 2 0)), (15, (rS aa na ca)), (16, (sI (na : Int))), (17, (sI i)), (52, (rS ad nd cd)), (53, (sI (nd : Int))), (54, (sI 0))])) (denH Z2) fun e_ s_ h_ => if q then e_ = .normal ∧ s_ = denF Z1 Z0 ∧ h_ = denH Z1 else e_ = .ret ∧ s_ = denF Z1 Z0 ∧ h_ = denH Z1)
 (.br q
 (.ret .normal (frS 63 [(0, (rS aa na ca)), (2, (sB false)), (15, (rS aa na ca)), (16, (sI (na : Int))), (17, (sI (IntKind.wrap .i64 (i + 1))))]) Z1)
 (.ret .ret Z0 Z1)))))))))))
 (.ret (.exit 0) Z0 [.seg H, .seg J]))) (.agg ⟨[(.int .i64 x0), (.int .i64 x1)]⟩)) [.seg H, .seg J, .blk .fix [(sI x0), (sI x1)]]) [.seg H, .seg J, .blk .fix [(sI x0), (sI x1)], .seg K]) (frS 63 [(0, (rS aa na ca)), (2, (sB false)), (15, (rS aa na ca)), (16, (sI (na : Int))), (17, (sI i))]) := by show _ = _; kernel_rfl
theorem tree77s (aa : Option Addr) (na ca : Nat) (H : Heap) : fnS [] (gE 0) (cE 0) 100 il77 (.yes (.con (.con (.con (.con .nil))))) [(rS aa na ca)] [.seg H] =
(.req (decide ((na : Int) < 1)) (.ret .ret [(sB false)] [.seg H])) := by kernel_rfl
theorem tree77u (aa : Option Addr) (na ca : Nat) (H : Heap) : fnS [] (gE 0) (cE 0) 100 il77 (.no (.con (.con (.con (.yes .nil))))) [(rS aa na ca)] [.seg H] =
(.req (!(decide ((na : Int) < 1))) (.req (decide ((na : Int) > 16)) (.ret .ret [(sB false)] [.seg H]))) := by kernel_rfl
theorem tree77n (aa : Option Addr) (na ca : Nat) (q : Bool) (H X : Heap) : (fun (Z0 : SFr) => (fun (Z1 : SH) => fnS [] (gE 0) (cE 0) 100 il77 (.no (.con (.con (.con (.no (.lp2 0 [2] q Z0 ⟨[], [.seg X]⟩ Z0 ⟨[], [.seg X]⟩ .nil .nil)))))) [(rS aa na ca)] [.seg H] =
(.req (!(decide ((na : Int) < 1))) (.req (!(decide ((na : Int) > 16))) (.claim (Wp (Plain.env [] (gE 0)) (inL [2]) (.block 0 (.loop body77_0)) (denF [.seg H] (frS 63 [(0, (rS aa na ca)), (2, (sB false)), (15, (rS aa na ca)), (16, (sI (na : Int))), (17, (sI 0))])) (denH [.seg H]) fun e_ s_ h_ => if q then e_ = .normal ∧ s_ = denF Z1 Z0 ∧ h_ = denH Z1 else e_ = .ret ∧ s_ = denF Z1 Z0 ∧ h_ = denH Z1)
 (.br q
 (.ret .ret [(sB true)] Z1)
 (.ret .ret [(sB false)] Z1)))))) [.seg H, .seg X]) (frS 63 [(2, (sB false))]) := by show _ = _; kernel_rfl
abbrev fr77 (aa : Option Addr) (n ca : Nat) (i : Int) : SFr := frS 63 [(0, (rS aa n ca)), (2, (sB false)), (15, (rS aa n ca)), (16, (sI (n : Int))), (17, (sI i))]
abbrev fr77i (aa : Option Addr) (n ca : Nat) (i : Int) (ad : Option Addr) (nd cd : Nat) (k : Int) : SFr := frS 63 [(0, (rS aa n ca)), (2, (sB false)), (4, (.ptr 2 0)), (15, (rS aa n ca)), (16, (sI (n : Int))), (17, (sI i)), (52, (rS ad nd cd)), (53, (sI (nd : Int))), (54, (sI k))]
theorem loop77i {H J : Heap} {aa ad : Option Addr} {n ca cd : Nat} {i : Int} {l : List R2} {x : R2} (ha : RowsW 2 H (.slice ad l.length cd) (l.map e2)) (hl : l.length ≤ 16) :
  Wp (Plain.env [] (gE 0)) (inL [0, 2, 15, 16, 17]) (.block 2 (.loop body77_2)) (denF [.seg H, .seg J, .blk .fix [sI x.a, sI x.b]] (fr77i aa n ca i ad l.length cd 0)) (denH [.seg H, .seg J, .blk .fix [sI x.a, sI x.b]]) fun e s h => ∃ K : Heap, s = denF [.seg H, .seg J, .blk .fix [sI x.a, sI x.b], .seg K] (fr77 aa n ca i) ∧ h = denH [.seg H, .seg J, .blk .fix [sI x.a, sI x.b], .seg K] ∧
   ((e = .normal ∧ has2 l x = false) ∨ (e = .ret ∧ has2 l x = true)) := by
 refine Wp.bl (fun m t h => ∃ (k : Nat) (K : Heap), k + m = l.length ∧ t = denF [.seg H, .seg J, .blk .fix [sI x.a, sI x.b], .seg K] (fr77i aa n ca i ad l.length cd k) ∧ h = denH [.seg H, .seg J, .blk .fix [sI x.a, sI x.b], .seg K] ∧ has2 (l.take k) x = false) ?_ l.length _ _
  ⟨0, [], by omega, by show denF _ _ = denF _ _; kernel_rfl, by simp [denH, denL, It.den, den0], rfl⟩
 rintro m t h ⟨k, K, hi, rfl, rfl, hg⟩
 by_cases hlt : k < l.length
 ·obtain ⟨y, hy⟩ := getE hlt
  obtain ⟨b1, o1, r1⟩ := ha.rowM hy
  refine Wp.tree (cE_ok 0) (tree77i aa ad n ca l.length cd i k x.a x.b y.a y.b b1 o1 H J K) ⟨rfl, rfl⟩ ⟨fun _ => ⟨r1.ptr _ _, r1.all _, fun hc => end_ret ⟨K ++ [some ⟨.fix, e2 y⟩], by show denF _ _ = denF _ _; kernel_rfl, by simp [denH, denL, It.den, den0, e2], .inr ⟨rfl, ?_⟩⟩, fun hc => end_next (m - 1) (by omega) ⟨k + 1, K ++ [some ⟨.fix, e2 y⟩], by omega, ?_, by simp [denH, denL, It.den, den0, e2], ?_⟩⟩, fun q => by simp at q; omega⟩
  ·refine List.any_eq_true.2 ⟨y, List.mem_of_getElem? hy, ?_⟩
   simp at hc ⊢
   omega
  ·rw [wrap64 (x := (k : Int) + 1) (by omega) (by omega)]
   show denF _ _ = denF _ _
   kernel_rfl
  ·rw [WB.take_one hy]
   unfold has2 at hg ⊢
   rw [List.any_append, hg, Bool.false_or]
   simp at hc ⊢
   omega
 ·have hil : k = l.length := by omega
  refine Wp.tree (cE_ok 0) (tree77i aa ad n ca l.length cd i k x.a x.b 0 0 0 0 H J K) ⟨rfl, rfl⟩ ⟨fun q => by simp at q; omega, fun _ => end_exit ⟨K, by show denF _ _ = denF _ _; kernel_rfl, rfl, .inl ⟨rfl, ?_⟩⟩⟩
  rw [hil, List.take_length] at hg
  exact hg
theorem loop77 {H : Heap} {aa : Option Addr} {ca : Nat} {l : List R2} (ha : RowsW 2 H (.slice aa l.length ca) (l.map e2)) (hl : l.length ≤ 16) :
  Wp (Plain.env [] (gE 0)) (inL [2]) (.block 0 (.loop body77_0)) (denF [.seg H] (fr77 aa l.length ca 0)) (denH [.seg H]) fun e s h => ∃ X : Heap, s = denF [.seg H, .seg X] (frS 63 [(2, (sB false))]) ∧ h = denH [.seg H, .seg X] ∧ ((e = .normal ∧ stpG [] l = true) ∨ (e = .ret ∧ stpG [] l = false)) := by
 refine Wp.bl (fun m t h => ∃ (i : Nat) (J : Heap), i + m = l.length ∧ t = denF [.seg H, .seg J] (fr77 aa l.length ca i) ∧ h = denH [.seg H, .seg J] ∧ stpG [] l = stpG (l.take i) (l.drop i)) ?_ l.length _ _ ⟨0, [], by omega, by show denF _ _ = denF _ _; kernel_rfl, by simp [denH, denL, It.den], rfl⟩
 rintro m t h ⟨i, J, hi, rfl, rfl, hg⟩
 by_cases hlt : i < l.length
 ·obtain ⟨x, hx⟩ := getE hlt
  obtain ⟨b1, o1, r1⟩ := ha.rowM hx
  obtain ⟨d, hcut, hd⟩ := ha.cutM (lo := 0) (hi := i) (by omega) (by omega) none (some (kI (i : Nat))) (.inl ⟨rfl, rfl⟩) (.inr rfl)
  rw [List.drop_zero] at hd
  obtain ⟨ad, cd, rfl⟩ := hd.slcM
  have hdl : (l.take i).length = i := by simp; omega
  rw [drop_at hx] at hg
  have key : (bif (bif (bif (bif (decide (x.a < 1)) then true else (decide (x.a > 7))) then true else (bif (x.a != 3) then (x.b != 0) else false)) then true else (decide (x.b < 0))) then true else (decide (x.b ≥ 8))) = true ↔ ¬ stOk x := by
   unfold stOk
   by_cases h3 : x.a = 3
   ·rw [if_pos h3]
    simp [h3]
    omega
   ·rw [if_neg h3]
    by_cases h1 : x.a < 1
    ·simp [h1]; omega
    ·by_cases h7 : x.a > 7
     ·simp [h7]; omega
     ·by_cases h0 : x.b = 0
      ·simp [h1, h7, h3, h0]
      ·simp [h1, h7, h3, h0]; omega
  obtain ⟨e, t1, h1, ⟨K, rfl, rfl, hk⟩, w⟩ := (loop77i (J := J) (aa := aa) (n := l.length) (ca := ca) (i := i) (x := x) hd (by omega)).exact
  rw [hdl] at hcut hd w
  have bad : (¬ stOk x ∨ has2 (l.take i) x = true) → stpG [] l = false := fun hno => by
   simp only [stpG, if_pos hno] at hg; exact hg
  rcases hk with ⟨rfl, hq⟩ | ⟨rfl, hq⟩
  ·refine Wp.tree (cE_ok 0) (tree77t aa ad l.length ca i cd i x.a x.b true b1 o1 H J K) ⟨rfl, rfl⟩ ⟨fun _ => ⟨r1.ptr _ _, r1.all _, by simp, by simp, by simp, by simp, fun hc => end_ret ⟨J ++ [some ⟨.fix, e2 x⟩], by show denF _ _ = denF _ _; kernel_rfl, by simp [denH, denL, It.den, den0, e2], .inr ⟨rfl, bad (.inl (key.1 hc))⟩⟩, fun hc => ⟨hcut _, ?_, And.intro (fun _ => ?_) (fun q => by cases q)⟩⟩, fun q => by simp at q; omega⟩
   ·simpa using w
   ·have hok : stOk x := Classical.byContradiction fun q => by rw [key.2 q] at hc; cases hc
    refine end_next (m - 1) (by omega) ⟨i + 1, J ++ [some ⟨.fix, e2 x⟩] ++ K, by omega, by rw [wrap64 (by omega) (by omega)]; show denF _ _ = denF _ _; kernel_rfl, by simp [denH, denL, It.den, den0, e2], ?_⟩
    have : ¬ (¬ stOk x ∨ has2 (l.take i) x = true) := by rw [hq]; simp [hok]
    simp only [stpG, if_neg this] at hg
    rw [WB.take_one hx]
    exact hg
  ·refine Wp.tree (cE_ok 0) (tree77t aa ad l.length ca i cd i x.a x.b false b1 o1 H J K) ⟨rfl, rfl⟩ ⟨fun _ => ⟨r1.ptr _ _, r1.all _, by simp, by simp, by simp, by simp, fun hc => end_ret ⟨J ++ [some ⟨.fix, e2 x⟩], by show denF _ _ = denF _ _; kernel_rfl, by simp [denH, denL, It.den, den0, e2], .inr ⟨rfl, bad (.inl (key.1 hc))⟩⟩, fun hc => ⟨hcut _, ?_, And.intro (fun q => by cases q) (fun _ => ?_)⟩⟩, fun q => by simp at q; omega⟩
   ·simpa using w
   ·exact end_ret ⟨J ++ [some ⟨.fix, e2 x⟩] ++ K, by show denF _ _ = denF _ _; kernel_rfl, by simp [denH, denL, It.den, den0, e2], .inr ⟨rfl, bad (.inr hq)⟩⟩
 ·have hil : i = l.length := by omega
  refine Wp.tree (cE_ok 0) (tree77t aa aa l.length ca 0 0 i 0 0 false 0 0 H J []) ⟨rfl, rfl⟩ ⟨fun q => by simp at q; omega, fun _ => end_exit ⟨J, by show denF _ _ = denF _ _; kernel_rfl, rfl, .inl ⟨rfl, ?_⟩⟩⟩
  rw [hg, hil, List.drop_length]; rfl
theorem sim77 : Summ Try.prog 77 (smry (pre1 2 e2 anyL) fun l h => (.bool (stpF l), h)) := smry_ok fun l args H ⟨s, e, hs, hl⟩ => by
 subst e
 obtain ⟨aa, ca, rfl⟩ := hs.slcM
 refine Sim.plain (R := fun v => v = .bool (stpF l)) ?_ (fun v hv => by subst hv; rfl)
 by_cases hn : 1 ≤ l.length ∧ l.length ≤ 16
 ·obtain ⟨e, t1, h1, ⟨X, rfl, rfl, hk⟩, w⟩ := (loop77 hs hn.2).exact
  have a1 : (!(decide ((l.length : Int) < 1))) = true := by simp; omega
  have a2 : (!(decide ((l.length : Int) > 16))) = true := by simp; omega
  rcases hk with ⟨rfl, hg⟩ | ⟨rfl, hg⟩
  ·have := fnS_tree (Q := fun v h' => v = .bool (stpF l) ∧ ∃ X, h' = H ++ X) mixed (gE_ok 0) (gE_q 0) (cE_ok 0) st77 (tree77n aa l.length ca true H X) ⟨rfl, rfl⟩ ⟨a1, a2, w, And.intro (fun _ => ⟨by rw [stpF, if_pos hn, hg]; rfl, X, by simp [denH, denL, It.den]⟩) (fun q => by cases q)⟩
   simpa [denH, denL, It.den, denF, denV, denA, den0] using this
  ·have := fnS_tree (Q := fun v h' => v = .bool (stpF l) ∧ ∃ X, h' = H ++ X) mixed (gE_ok 0) (gE_q 0) (cE_ok 0) st77 (tree77n aa l.length ca false H X) ⟨rfl, rfl⟩ ⟨a1, a2, w, And.intro (fun q => by cases q) (fun _ => ⟨by rw [stpF, if_pos hn, hg]; rfl, X, by simp [denH, denL, It.den]⟩)⟩
   simpa [denH, denL, It.den, denF, denV, denA, den0] using this
 ·by_cases h1 : (l.length : Int) < 1
  ·have := fnS_tree (Q := fun v h' => v = .bool (stpF l) ∧ ∃ X, h' = H ++ X) mixed (gE_ok 0) (gE_q 0) (cE_ok 0) st77 (tree77s aa l.length ca H) ⟨rfl, rfl⟩ ⟨by simpa using h1, by rw [stpF, if_neg hn]; rfl, [], by simp [denH, denL, It.den]⟩
   simpa [denH, denL, It.den, denF, denV, denA, den0] using this
  ·have := fnS_tree (Q := fun v h' => v = .bool (stpF l) ∧ ∃ X, h' = H ++ X) mixed (gE_ok 0) (gE_q 0) (cE_ok 0) st77 (tree77u aa l.length ca H) ⟨rfl, rfl⟩ ⟨by simp; omega, by simp; omega, by rw [stpF, if_neg hn]; rfl, [], by simp [denH, denL, It.den]⟩
   simpa [denH, denL, It.den, denF, denV, denA, den0] using this
end Q
end D
end Go.Proofs.Ytgdojnamjkhknaa
