/-
  deal: what its notes are, which steps may be a mode's; the document's own answer to that.
-/
import Derived.Test.YtgdojnamjkhknaaQdD1
namespace Go.Proofs.Ytgdojnamjkhknaa
open Go.Am
set_option linter.all false
set_option maxRecDepth 100000
namespace D
open A (gE cE gE_ok gE_q cE_ok tupIB pre1 pre1_u anyL lnF)
theorem drop_at {α : Type} {l : List α} {i : Nat} {x : α} (hx : l[i]? = some x) : l.drop i = x :: l.drop (i + 1) := by
 obtain ⟨hlt, rfl⟩ := List.getElem?_eq_some_iff.1 hx
 rw [List.drop_eq_getElem_cons hlt]
def body95_0 : IL := .seq (.reg [ oT 16 (.bin .lss (.tmp 15) (.tmp 14))]) (.seq (.ite (.tmp 16) (.skip) (.exit 0)) (.seq (.block 1 (.seq (.reg [ oT 17 (.iadr 3 none (.tmp 13) (.tmp 15)), oT 18 (.load (.tmp 17) (some 3)), oT 8 (.alloc [(.int .i64 0), (.int .i64 0), (.int .i64 0)]), oN (.store (.tmp 8) (.tmp 18) 3)]) (.seq (.seq (.reg [ oT 19 (.fadr 0 (.tmp 8)), oT 20 (.load (.tmp 19) none), oT 21 (.call 74 [(.tmp 20), (kI 0), (kI 7)]), oT 22 (.un .not (.tmp 21)), oT 23 (.mov (.tmp 22)), ⟨(some 24), (some (23, false)), .fadr 1 (.tmp 8)⟩, ⟨(some 25), (some (23, false)), .load (.tmp 24) none⟩, ⟨(some 26), (some (23, false)), .mov (.tmp 1)⟩, ⟨(some 27), (some (23, false)), .mov (.tmp 6)⟩, ⟨(some 28), (some (23, false)), .bin .sub (.tmp 26) (.tmp 27)⟩, ⟨(some 29), (some (23, false)), .call 74 [(.tmp 25), (kI 1), (.tmp 28)]⟩, ⟨(some 30), (some (23, false)), .un .not (.tmp 29)⟩, oT 31 (.pick (.tmp 23) (.const (.bool true)) (.tmp 30)), oT 32 (.mov (.tmp 31)), ⟨(some 33), (some (32, false)), .fadr 2 (.tmp 8)⟩, ⟨(some 34), (some (32, false)), .load (.tmp 33) none⟩, ⟨(some 35), (some (32, false)), .call 74 [(.tmp 34), (kI 0), (kI 5000)]⟩, ⟨(some 36), (some (32, false)), .un .not (.tmp 35)⟩, oT 37 (.pick (.tmp 32) (.const (.bool true)) (.tmp 36))]) (.ite (.tmp 37) (.seq (.reg [ oT 4 (.mov (kI 0)), oT 5 (.mov (.const (.bool false)))]) (.ret)) (.skip))) (.reg [ oT 38 (.mov (.tmp 6)), oT 39 (.fadr 1 (.tmp 8)), oT 40 (.load (.tmp 39) none), oT 41 (.bin .add (.tmp 38) (.tmp 40)), oT 6 (.mov (.tmp 41))])))) (.reg [ oT 42 (.bin .add (.tmp 15) (kI 1)), oT 15 (.mov (.tmp 42))])))
def il95 : FnIL := ⟨44, [.tmp 4, .tmp 5], .seq (.reg [ oT 4 (.mov (kI 0)), oT 5 (.mov (.const (.bool false)))]) (.seq (.seq (.reg [ oT 9 (.mov (.tmp 0)), oT 10 (.len (.tmp 9)), oT 11 (.call 74 [(.tmp 10), (kI 1), (kI 8)]), oT 12 (.un .not (.tmp 11))]) (.ite (.tmp 12) (.seq (.reg [ oT 4 (.mov (kI 0)), oT 5 (.mov (.const (.bool false)))]) (.ret)) (.skip))) (.seq (.reg [ oT 6 (.mov (kI 0))]) (.seq (.seq (.reg [ oT 13 (.mov (.tmp 0)), oT 14 (.len (.tmp 13)), oT 15 (.mov (kI 0))]) (.block 0 (.loop (body95_0)))) (.seq (.reg [ oT 43 (.mov (.tmp 6)), oT 4 (.mov (.tmp 43)), oT 5 (.mov (.const (.bool true)))]) (.ret)))))⟩
theorem st95 : stF Try.prog qt 95 = some il95 := by kernel_rfl
theorem tree95t (aa : Option Addr) (na ca : Nat) (i most all x0 x1 x2 : Int) (b1 o1 : Nat) (H J : Heap) : (fun (Z0 : SFr) => (fun (Z1 : Value) => (fun (Z2 : SH) => pieceS tblD (gE 0) (cE 0) 100 (fun i => exL i body95_0 || inL [4, 5, 6] i) body95_0 (.sym (.pur 22000017 (.pointer (some ⟨b1, o1, none⟩)) (.bas 7000018 Z1 (.join 8 (.con (.con (.con (.con (.con (.con (.con (.con .nil)))))))) (.con (.con (.con (.con (.con (.con (.con (.con .nil)))))))) (.join 5 (.con (.con (.con (.con (.con .nil))))) (.con (.con (.con (.con (.con .nil))))) (.sym .nil .nil))))) .nil) Z0 [.seg H, .seg J] =
(.br (decide (i < (na : Int)))
 (.claim (opA (Plain.env tblD (gE 0)) (.iadr 3 none (.const (.slice aa na ca)) (kI i)) [] [] = some ((.pointer (some ⟨b1, o1, none⟩)), []))
 (.claim (opA (Plain.env tblD (gE 0)) (.load (.const (.pointer (some ⟨b1, o1, none⟩))) (some 3)) [] H = some (Z1, H))
 (.req true (.req (bif (!(wB x0 0 7)) then true else true) (.req (bif (bif (!(wB x0 0 7)) then true else (!(wB x1 1 (IntKind.wrap .i64 (most - all))))) then true else true) (.br (bif (bif (!(wB x0 0 7)) then true else (!(wB x1 1 (IntKind.wrap .i64 (most - all))))) then true else (!(wB x2 0 5000)))
 (.ret .ret Z0 Z2)
 (.ret .normal (frS 44 [(1, (sI most)), (4, (sI 0)), (5, (sB false)), (6, (sI (IntKind.wrap .i64 (all + x1)))), (13, (rS aa na ca)), (14, (sI (na : Int))), (15, (sI (IntKind.wrap .i64 (i + 1))))]) Z2)))))))
 (.ret (.exit 0) Z0 [.seg H, .seg J]))) [.seg H, .seg J, .blk .fix [(sI x0), (sI x1), (sI x2)]]) (.agg ⟨[(.int .i64 x0), (.int .i64 x1), (.int .i64 x2)]⟩)) (frS 44 [(1, (sI most)), (4, (sI 0)), (5, (sB false)), (6, (sI all)), (13, (rS aa na ca)), (14, (sI (na : Int))), (15, (sI i))]) := by show _ = _; kernel_rfl
theorem tree95s (aa : Option Addr) (na ca : Nat) (most : Int) (H : Heap) : fnS tblD (gE 0) (cE 0) 100 il95 (.yes .nil) [(rS aa na ca), (sI most)] [.seg H] =
(.req true (.req (!(wB (na : Int) 1 8)) (.ret .ret [(.raw (.tuple ⟨[(.int .i64 0), (.bool false)]⟩))] [.seg H]))) := by kernel_rfl
theorem tree95n (aa : Option Addr) (na ca : Nat) (most : Int) (q : Bool) (all : Int) (H X : Heap) : (fun (Z0 : SFr) => (fun (Z1 : SH) => fnS tblD (gE 0) (cE 0) 100 il95 (.no (.lp2 0 [4, 5, 6] q Z0 ⟨[], [.seg X]⟩ Z0 ⟨[], [.seg X]⟩ .nil .nil)) [(rS aa na ca), (sI most)] [.seg H] =
(.req true (.req (!(!(wB (na : Int) 1 8))) (.claim (Wp (Plain.env tblD (gE 0)) (inL [4, 5, 6]) (.block 0 (.loop body95_0)) (denF [.seg H] (frS 44 [(1, (sI most)), (4, (sI 0)), (5, (sB false)), (6, (sI 0)), (13, (rS aa na ca)), (14, (sI (na : Int))), (15, (sI 0))])) (denH [.seg H]) fun e_ s_ h_ => if q then e_ = .normal ∧ s_ = denF Z1 Z0 ∧ h_ = denH Z1 else e_ = .ret ∧ s_ = denF Z1 Z0 ∧ h_ = denH Z1)
 (.br q
 (.ret .ret [(.raw (.tuple ⟨[(.int .i64 all), (.bool true)]⟩))] Z1)
 (.ret .ret [(.raw (.tuple ⟨[(.int .i64 0), (.bool false)]⟩))] Z1)))))) [.seg H, .seg X]) (frS 44 [(4, (sI 0)), (5, (sB false)), (6, (sI all))]) := by show _ = _; kernel_rfl
def ntOk (most all : Int) (x : R3) : Prop := (0 ≤ x.a ∧ x.a ≤ 7) ∧ (1 ≤ x.b ∧ x.b ≤ most - all) ∧ (0 ≤ x.c ∧ x.c ≤ 5000)
instance (most all : Int) (x : R3) : Decidable (ntOk most all x) := by unfold ntOk; exact inferInstance
def ntG (most : Int) : Int → List R3 → Int × Bool
 | all, [] => (all, true)
 | all, x :: r => if ¬ ntOk most all x then (0, false) else ntG most (all + x.b) r
def ntF (most : Int) (l : List R3) : Int × Bool := if 1 ≤ l.length ∧ l.length ≤ 8 then ntG most 0 l else (0, false)
abbrev fr95 (aa : Option Addr) (n ca : Nat) (most all i : Int) : SFr := frS 44 [(1, (sI most)), (4, (sI 0)), (5, (sB false)), (6, (sI all)), (13, (rS aa n ca)), (14, (sI (n : Int))), (15, (sI i))]
theorem loop95 {H : Heap} {aa : Option Addr} {ca : Nat} {l : List R3} {most : Int} (ha : RowsW 3 H (.slice aa l.length ca) (l.map e3)) (hl : l.length ≤ 8) (hm : 0 ≤ most ∧ most ≤ 1099511627776) :
  Wp (Plain.env tblD (gE 0)) (inL [4, 5, 6]) (.block 0 (.loop body95_0)) (denF [.seg H] (fr95 aa l.length ca most 0 0)) (denH [.seg H]) fun e s h => ∃ (X : Heap) (all : Int), s = denF [.seg H, .seg X] (frS 44 [(4, (sI 0)), (5, (sB false)), (6, (sI all))]) ∧ h = denH [.seg H, .seg X] ∧
   ((e = .normal ∧ ntG most 0 l = (all, true)) ∨ (e = .ret ∧ ntG most 0 l = (0, false))) := by
 refine Wp.bl (fun m t h => ∃ (i : Nat) (J : Heap) (all : Int), i + m = l.length ∧ t = denF [.seg H, .seg J] (fr95 aa l.length ca most all i) ∧ h = denH [.seg H, .seg J] ∧ 0 ≤ all ∧ all ≤ most ∧ ntG most 0 l = ntG most all (l.drop i)) ?_ l.length _ _
  ⟨0, [], 0, by omega, by show denF _ _ = denF _ _; kernel_rfl, by simp [denH, denL, It.den], by omega, by omega, rfl⟩
 rintro m t h ⟨i, J, all, hi, rfl, rfl, h0, h1, hg⟩
 by_cases hlt : i < l.length
 ·obtain ⟨x, hx⟩ := getE hlt
  obtain ⟨b1, o1, r1⟩ := ha.rowM hx
  rw [drop_at hx] at hg
  have w1 : IntKind.wrap .i64 (most - all) = most - all := wrap64 (by omega) (by omega)
  have key : (bif (bif (!(wB x.a 0 7)) then true else (!(wB x.b 1 (IntKind.wrap .i64 (most - all))))) then true else (!(wB x.c 0 5000))) = true ↔ ¬ ntOk most all x := by
   rw [w1]
   unfold ntOk
   by_cases q1 : 0 ≤ x.a ∧ x.a ≤ 7
   ·by_cases q2 : 1 ≤ x.b ∧ x.b ≤ most - all
    ·by_cases q3 : 0 ≤ x.c ∧ x.c ≤ 5000
     ·rw [wB_t.2 q1, wB_t.2 q2, wB_t.2 q3]; simp [q1, q2, q3]
     ·rw [wB_t.2 q1, wB_t.2 q2, wB_f.2 q3]; simp [q1, q2]; omega
    ·rw [wB_t.2 q1, wB_f.2 q2]; simp [q1]; omega
   ·rw [wB_f.2 q1]; simp; omega
  refine Wp.tree (cE_ok 0) (tree95t aa l.length ca i most all x.a x.b x.c b1 o1 H J) ⟨rfl, rfl⟩ ⟨fun _ => ⟨r1.ptr _ _, r1.all _, rfl, by simp, by simp, fun hc => end_ret ?_, fun hc => end_next (m - 1) (by omega) ?_⟩, fun q => by simp at q; omega⟩
  ·simp only [ntG, if_pos (key.1 hc)] at hg
   exact ⟨J ++ [some ⟨.fix, e3 x⟩], all, by show denF _ _ = denF _ _; kernel_rfl, by simp [denH, denL, It.den, den0, e3], .inr ⟨rfl, hg⟩⟩
  ·have hc' : ¬ ¬ ntOk most all x := fun q => by rw [key.2 q] at hc; cases hc
   simp only [ntG, if_neg hc'] at hg
   have hok : ntOk most all x := Classical.byContradiction hc'
   obtain ⟨_, hb, _⟩ := hok
   refine ⟨i + 1, J ++ [some ⟨.fix, e3 x⟩], all + x.b, by omega, ?_, by simp [denH, denL, It.den, den0, e3], by omega, by omega, hg⟩
   rw [wrap64 (x := (i : Int) + 1) (by omega) (by omega), wrap64 (x := all + x.b) (by omega) (by omega)]
   show denF _ _ = denF _ _
   kernel_rfl
 ·have hil : i = l.length := by omega
  refine Wp.tree (cE_ok 0) (tree95t aa l.length ca i most all 0 0 0 0 0 H J) ⟨rfl, rfl⟩ ⟨fun q => by simp at q; omega, fun _ => end_exit ⟨J, all, by show denF _ _ = denF _ _; kernel_rfl, rfl, .inl ⟨rfl, ?_⟩⟩⟩
  rw [hg, hil, List.drop_length]; rfl
def pre95 (x : List R3 × Int) (args : List Value) (h : Heap) : Prop := ∃ s, args = [s, .int .i64 x.2] ∧ RowsW 3 h s (x.1.map e3) ∧ 0 ≤ x.2 ∧ x.2 ≤ 1099511627776
theorem call95 {l : List R3} {most : Int} {s : Value} {h : Heap} (hs : RowsW 3 h s (l.map e3)) (hm : 0 ≤ most ∧ most ≤ 1099511627776) : smry pre95 (fun x h => (tupIB (ntF x.2 x.1), h)) [s, .int .i64 most] h = some (tupIB (ntF most l), h) :=
 smry_some (x := (l, most)) ⟨s, rfl, hs, hm.1, hm.2⟩ fun y ⟨s', e, hs', _⟩ => by
  simp only [List.cons.injEq, Value.int.injEq, true_and, and_true] at e
  obtain ⟨rfl, e⟩ := e
  rw [map_inj e3_1 (hs'.uniq hs), e]
theorem sim95 : Summ Try.prog 95 (smry pre95 fun x h => (tupIB (ntF x.2 x.1), h)) := smry_ok fun y args H ⟨s, e, hs, hm⟩ => by
 subst e
 obtain ⟨l, most⟩ := y
 obtain ⟨aa, ca, rfl⟩ := hs.slcM
 refine Sim.plain (R := fun v => v = tupIB (ntF most l)) ?_ (fun v hv => by subst hv; rfl)
 by_cases hn : 1 ≤ l.length ∧ l.length ≤ 8
 ·obtain ⟨e, t1, h1, ⟨X, all, rfl, rfl, hk⟩, w⟩ := (loop95 hs hn.2 hm).exact
  have hw : wB (l.length : Int) 1 8 = true := wB_t.2 ⟨by omega, by omega⟩
  rcases hk with ⟨rfl, hg⟩ | ⟨rfl, hg⟩
  ·have := fnS_tree (Q := fun v h' => v = tupIB (ntF most l) ∧ ∃ X, h' = H ++ X) mixed (gE_ok 0) (gE_q 0) (cE_ok 0) st95 (tree95n aa l.length ca most true all H X) ⟨rfl, rfl⟩ ⟨rfl, by rw [hw]; rfl, w, And.intro (fun _ => ⟨by rw [ntF, if_pos hn, hg]; rfl, X, by simp [denH, denL, It.den]⟩) (fun q => by cases q)⟩
   simpa [denH, denL, It.den, denF, denV, denA, den0] using this
  ·have := fnS_tree (Q := fun v h' => v = tupIB (ntF most l) ∧ ∃ X, h' = H ++ X) mixed (gE_ok 0) (gE_q 0) (cE_ok 0) st95 (tree95n aa l.length ca most false all H X) ⟨rfl, rfl⟩ ⟨rfl, by rw [hw]; rfl, w, And.intro (fun q => by cases q) (fun _ => ⟨by rw [ntF, if_pos hn, hg]; rfl, X, by simp [denH, denL, It.den]⟩)⟩
   simpa [denH, denL, It.den, denF, denV, denA, den0] using this
 ·have hw : wB (l.length : Int) 1 8 = false := wB_f.2 (by omega)
  have := fnS_tree (Q := fun v h' => v = tupIB (ntF most l) ∧ ∃ X, h' = H ++ X) mixed (gE_ok 0) (gE_q 0) (cE_ok 0) st95 (tree95s aa l.length ca most H) ⟨rfl, rfl⟩ ⟨rfl, by rw [hw]; rfl, by rw [ntF, if_neg hn]; rfl, [], by simp [denH, denL, It.den]⟩
  simpa [denH, denL, It.den, denF, denV, denA, den0] using this
def has2 (l : List R2) (y : R2) : Bool := l.any fun x => y.a == x.a && (y.b == x.b && true)
namespace C
def il75 : FnIL := ⟨9, [.tmp 4], .seq (.reg [ oT 3 (.box (.tmp 1)), oT 4 (.mov (.const (.bool false)))]) (.seq (.reg [ oT 5 (.mov (.tmp 0)), oT 6 (.load (.tmp 3) (some 2)), oT 7 (.call 97 [(.tmp 5), (.tmp 6)]), oT 8 (.bin .geq (.tmp 7) (kI 0)), oT 4 (.mov (.tmp 8))]) (.ret))⟩
def body97_0 : IL := .seq (.reg [ oT 9 (.bin .lss (.tmp 8) (.tmp 7))]) (.seq (.ite (.tmp 9) (.skip) (.exit 0)) (.seq (.block 1 (.seq (.reg [ oT 10 (.mov (.tmp 8)), oT 5 (.mov (.tmp 10))]) (.seq (.dreg [ oT 11 (.load (.tmp 3) (some 2)), oT 12 (.mov (.tmp 0)), oT 13 (.mov (.tmp 5)), oT 14 (.iadr 2 none (.tmp 12) (.tmp 13)), oT 15 (.load (.tmp 14) (some 2)), oT 16 (.eqv false (.cells [false, false]) (.tmp 11) (.tmp 15))] []) (.ite (.tmp 16) (.seq (.reg [ oT 17 (.mov (.tmp 5)), oT 4 (.mov (.tmp 17))]) (.ret)) (.skip))))) (.reg [ oT 18 (.bin .add (.tmp 8) (kI 1)), oT 8 (.mov (.tmp 18))])))
def il97 : FnIL := ⟨19, [.tmp 4], .seq (.reg [ oT 3 (.box (.tmp 1)), oT 4 (.mov (kI 0))]) (.seq (.seq (.reg [ oT 6 (.mov (.tmp 0)), oT 7 (.len (.tmp 6)), oT 8 (.mov (kI 0))]) (.block 0 (.loop (body97_0)))) (.seq (.reg [ oT 4 (.mov (kI (-1)))]) (.ret)))⟩
theorem st97 : stF Try.prog qt 97 = some il97 := by kernel_rfl
theorem st75 : stF Try.prog qt 75 = some il75 := by kernel_rfl
def inl : Tab := [(97, il97)]
noncomputable abbrev gE (k : Nat) : Env := inE tblD inl k noEnv
noncomputable abbrev cE (k : Nat) : CallS := callS tblD inl noEnv 100 k
theorem noq : noQt qt inl := fun f F h => rfl
theorem gE_q (k : Nat) : QuietEnv qt (Plain.env tblD (gE k)) := Plain.quiet (inE_quiet noEnv_quiet noq k)
theorem gE_ok (k : Nat) : EnvOk Try.prog (Plain.env tblD (gE k)) := Plain.ok tblD_ok (inE_ok (qt := qt) mixed tblD_ok (.cons st97 .nil) noq noEnv_ok noEnv_quiet k)
theorem cE_ok (k : Nat) : CallOk (Plain.env tblD (gE k)) (cE k) := callS_ok k
theorem tree97t (aa : Option Addr) (na ca : Nat) (i y0 y1 x0 x1 : Int) (b1 o1 : Nat) (H J : Heap) : (fun (Z0 : SH) => (fun (Z1 : SFr) => (fun (Z2 : Value) => pieceS tblD (gE 0) (cE 0) 100 (fun i => exL i body97_0 || inL [4] i) body97_0 (.sym (.pur 22000014 (.pointer (some ⟨b1, o1, none⟩)) (.bas 7000015 Z2 (.sym .nil .nil))) .nil) Z1 Z0 =
(.br (decide (i < (na : Int)))
 (.req true (.claim (opA (Plain.env tblD (gE 0)) (.iadr 2 none (.const (.slice aa na ca)) (kI i)) [] [] = some ((.pointer (some ⟨b1, o1, none⟩)), []))
 (.claim (opA (Plain.env tblD (gE 0)) (.load (.const (.pointer (some ⟨b1, o1, none⟩))) (some 2)) [] H = some (Z2, H))
 (.br ((y0 == x0) && ((y1 == x1) && true))
 (.ret .ret (frS 19 [(0, (rS aa na ca)), (3, (.ptr 1 0)), (4, (sI i)), (7, (sI (na : Int))), (8, (sI i))]) Z0)
 (.ret .normal (frS 19 [(0, (rS aa na ca)), (3, (.ptr 1 0)), (4, (sI 0)), (7, (sI (na : Int))), (8, (sI (IntKind.wrap .i64 (i + 1))))]) Z0)))))
 (.ret (.exit 0) Z1 Z0))) (.agg ⟨[(.int .i64 x0), (.int .i64 x1)]⟩)) (frS 19 [(0, (rS aa na ca)), (3, (.ptr 1 0)), (4, (sI 0)), (7, (sI (na : Int))), (8, (sI i))])) [.seg H, .blk .fix [(sI y0), (sI y1)], .seg J] := by show _ = _; kernel_rfl
theorem tree75 (aa : Option Addr) (na ca : Nat) (y0 y1 : Int) (q : Bool) (r : Int) (H : Heap) : (fun (Z0 : SH) => fnS tblD (gE 1) (cE 1) 100 il75 (.lp2 0 [4] q (frS 19 [(4, (sI 0))]) ⟨[], []⟩ (frS 19 [(4, (sI r))]) ⟨[], []⟩ .nil .nil) [(rS aa na ca), (.raw (.agg ⟨[(.int .i64 y0), (.int .i64 y1)]⟩))] [.seg H] =
(.claim (Wp (Plain.env tblD (gE 0)) (inL [4]) (.block 0 (.loop body97_0)) (denF Z0 (frS 19 [(0, (rS aa na ca)), (3, (.ptr 2 0)), (4, (sI 0)), (7, (sI (na : Int))), (8, (sI 0))])) (denH Z0) fun e_ s_ h_ => if q then e_ = .normal ∧ s_ = denF Z0 (frS 19 [(4, (sI 0))]) ∧ h_ = denH Z0 else e_ = .ret ∧ s_ = denF Z0 (frS 19 [(4, (sI r))]) ∧ h_ = denH Z0)
 (.br q
 (.ret .ret [(sB false)] Z0)
 (.ret .ret [(sB (decide (r ≥ 0)))] Z0)))) [.seg H, .blk .fix [(sI y0), (sI y1)], .blk .fix [(sI y0), (sI y1)]] := by show _ = _; kernel_rfl
abbrev fr97 (aa : Option Addr) (n ca k : Nat) (i : Int) : SFr := frS 19 [(0, (rS aa n ca)), (3, (.ptr k 0)), (4, (sI 0)), (7, (sI (n : Int))), (8, (sI i))]
theorem loop97 {H : Heap} {aa : Option Addr} {ca : Nat} {l : List R2} {y : R2} (ha : RowsW 2 H (.slice aa l.length ca) (l.map e2)) (hl : l.length ≤ 1099511627776) :
  Wp (Plain.env tblD (gE 0)) (inL [4]) (.block 0 (.loop body97_0)) (denF [.seg H, .blk .fix [sI y.a, sI y.b], .seg []] (fr97 aa l.length ca 1 0)) (denH [.seg H, .blk .fix [sI y.a, sI y.b], .seg []]) fun e s h => h = denH [.seg H, .blk .fix [sI y.a, sI y.b], .seg []] ∧
   ((e = .normal ∧ s = denF [.seg H] (frS 19 [(4, (sI 0))]) ∧ has2 l y = false) ∨ (e = .ret ∧ ∃ r : Int, 0 ≤ r ∧ s = denF [.seg H] (frS 19 [(4, (sI r))]) ∧ has2 l y = true)) := by
 refine Wp.bl (fun m t h => ∃ (i : Nat), i + m = l.length ∧ t = denF [.seg H, .blk .fix [sI y.a, sI y.b], .seg []] (fr97 aa l.length ca 1 i) ∧ h = denH [.seg H, .blk .fix [sI y.a, sI y.b], .seg []] ∧ has2 (l.take i) y = false) ?_ l.length _ _
  ⟨0, by omega, rfl, rfl, rfl⟩
 rintro m t h ⟨i, hi, rfl, rfl, hg⟩
 by_cases hlt : i < l.length
 ·obtain ⟨x, hx⟩ := getE hlt
  obtain ⟨b1, o1, r1⟩ := ha.rowM hx
  refine Wp.tree (C.cE_ok 0) (tree97t aa l.length ca i y.a y.b x.a x.b b1 o1 H []) ⟨rfl, rfl⟩ ⟨fun _ => ⟨rfl, r1.ptr _ _, r1.all _, fun hc => end_ret ⟨rfl, .inr ⟨rfl, i, by omega, by show denF _ _ = denF _ _; kernel_rfl, ?_⟩⟩, fun hc => end_next (m - 1) (by omega) ⟨i + 1, by omega, ?_, rfl, ?_⟩⟩, fun q => by simp at q; omega⟩
  ·exact List.any_eq_true.2 ⟨x, List.mem_of_getElem? hx, hc⟩
  ·rw [wrap64 (x := (i : Int) + 1) (by omega) (by omega)]
   show denF _ _ = denF _ _
   kernel_rfl
  ·rw [WB.take_one hx]
   unfold has2 at hg ⊢
   rw [List.any_append, hg, Bool.false_or]
   simp only [List.any_cons, List.any_nil, Bool.or_false]
   exact hc
 ·have hil : i = l.length := by omega
  refine Wp.tree (C.cE_ok 0) (tree97t aa l.length ca i y.a y.b 0 0 0 0 H []) ⟨rfl, rfl⟩ ⟨fun q => by simp at q; omega, fun _ => end_exit ⟨rfl, .inl ⟨rfl, by show denF _ _ = denF _ _; kernel_rfl, ?_⟩⟩⟩
  rw [hil, List.take_length] at hg
  exact hg
def pre75 (x : List R2 × R2) (args : List Value) (h : Heap) : Prop := ∃ s, args = [s, .agg ⟨e2 x.2⟩] ∧ RowsW 2 h s (x.1.map e2) ∧ x.1.length ≤ 1099511627776
theorem call75 {l : List R2} {y : R2} {s : Value} {h : Heap} (hs : RowsW 2 h s (l.map e2)) (hl : l.length ≤ 1099511627776) : smry pre75 (fun x h => (.bool (has2 x.1 x.2), h)) [s, .agg ⟨e2 y⟩] h = some (.bool (has2 l y), h) :=
 smry_some (x := (l, y)) ⟨s, rfl, hs, hl⟩ fun z ⟨s', e, hs', _⟩ => by
  simp only [List.cons.injEq, Value.agg.injEq, Array.mk.injEq, and_true] at e
  obtain ⟨rfl, e⟩ := e
  rw [map_inj e2_1 (hs'.uniq hs), e2_1 _ _ e]
theorem sim75 : Summ Try.prog 75 (smry pre75 fun x h => (.bool (has2 x.1 x.2), h)) := smry_ok fun z args H ⟨s, e, hs, hl⟩ => by
 subst e
 obtain ⟨l, y⟩ := z
 obtain ⟨aa, ca, rfl⟩ := hs.slcM
 refine Sim.plain (R := fun v => v = .bool (has2 l y)) ?_ (fun v hv => by subst hv; rfl)
 have H2 : RowsW 2 (H ++ [some ⟨.fix, e2 y⟩]) (.slice aa l.length ca) (l.map e2) := hs.app _
 obtain ⟨e, t1, h1, ⟨rfl, hk⟩, w⟩ := (loop97 (y := y) H2 hl).exact
 have eH : denH [.seg H, .blk .fix [sI y.a, sI y.b], .blk .fix [sI y.a, sI y.b]] = denH [.seg (H ++ [some ⟨.fix, e2 y⟩]), .blk .fix [sI y.a, sI y.b], .seg []] := by simp [denH, denL, It.den, den0, e2]
 have eF : denF [.seg H, .blk .fix [sI y.a, sI y.b], .blk .fix [sI y.a, sI y.b]] (fr97 aa l.length ca 2 0) = denF [.seg (H ++ [some ⟨.fix, e2 y⟩]), .blk .fix [sI y.a, sI y.b], .seg []] (fr97 aa l.length ca 1 0) := by
  rw [frS_den, frS_den]
  simp [denV, denA, den0, ofs, It.len]
 rcases hk with ⟨rfl, rfl, hg⟩ | ⟨rfl, r, hr, rfl, hg⟩
 ·have := fnS_tree (Q := fun v h' => v = .bool (has2 l y) ∧ ∃ X, h' = H ++ X) mixed (gE_ok 1) (gE_q 1) (cE_ok 1) st75 (tree75 aa l.length ca y.a y.b true 0 H) ⟨rfl, rfl⟩ ⟨by rw [eH, eF]; exact w.mono fun e s h ⟨q1, q2, q3⟩ => ⟨q1, by rw [q2]; show denF _ _ = denF _ _; kernel_rfl, q3⟩, And.intro (fun _ => ⟨by rw [hg]; rfl, _, by simp [denH, denL, It.den]; rfl⟩) (fun q => by cases q)⟩
  simpa [denH, denL, It.den, denF, denV, denA, den0, e2] using this
 ·have := fnS_tree (Q := fun v h' => v = .bool (has2 l y) ∧ ∃ X, h' = H ++ X) mixed (gE_ok 1) (gE_q 1) (cE_ok 1) st75 (tree75 aa l.length ca y.a y.b false r H) ⟨rfl, rfl⟩ ⟨by rw [eH, eF]; exact w.mono fun e s h ⟨q1, q2, q3⟩ => ⟨q1, by rw [q2]; show denF _ _ = denF _ _; kernel_rfl, q3⟩, And.intro (fun q => by cases q) (fun _ => ⟨by rw [hg]; show Value.bool (decide (r ≥ 0)) = _; simp [hr], _, by simp [denH, denL, It.den]; rfl⟩)⟩
  simpa [denH, denL, It.den, denF, denV, denA, den0, e2] using this
end C
end D
end Go.Proofs.Ytgdojnamjkhknaa
