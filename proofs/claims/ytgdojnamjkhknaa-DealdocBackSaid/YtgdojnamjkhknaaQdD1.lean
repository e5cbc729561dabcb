/-
  deal: what its loans are, what its notes are, which steps may be a mode's.
-/
import Derived.Test.YtgdojnamjkhknaaQdWFn
namespace Go.Proofs.Ytgdojnamjkhknaa
open Go.Am
set_option linter.all false
set_option maxRecDepth 100000
namespace D
def wB (x lo hi : Int) : Bool := decide (lo ≤ x ∧ x ≤ hi)
theorem wB_t {x lo hi : Int} : wB x lo hi = true ↔ lo ≤ x ∧ x ≤ hi := by simp [wB]
theorem wB_f {x lo hi : Int} : wB x lo hi = false ↔ ¬ (lo ≤ x ∧ x ≤ hi) := by simp only [wB, decide_eq_false_iff_not]
def sWi : List Value → Option (Bool × Value)
 | [.int .i64 x, .int .i64 lo, .int .i64 hi] => some (true, .bool (wB x lo hi))
 | _ => none
namespace W74
open WB (gE cE gE_ok gE_q cE_ok)
def il74 : FnIL := ⟨15, [.tmp 6], .seq (.reg [ oT 6 (.mov (.const (.bool false)))]) (.seq (.reg [ oT 7 (.mov (.tmp 0)), oT 8 (.mov (.tmp 1)), oT 9 (.bin .geq (.tmp 7) (.tmp 8)), oT 10 (.mov (.tmp 9)), ⟨(some 11), (some (10, true)), .mov (.tmp 0)⟩, ⟨(some 12), (some (10, true)), .mov (.tmp 2)⟩, ⟨(some 13), (some (10, true)), .bin .leq (.tmp 11) (.tmp 12)⟩, oT 14 (.pick (.tmp 10) (.tmp 13) (.const (.bool false))), oT 6 (.mov (.tmp 14))]) (.ret))⟩
theorem st74 : stF Try.prog qt 74 = some il74 := by kernel_rfl
theorem tree74 (x lo hi : Int) : fnS [] (gE 0) (cE 0) 100 il74 (.join 4 (.con (.con (.con (.con .nil)))) (.con (.con (.con (.con .nil)))) .nil) [(sI x), (sI lo), (sI hi)] [] =
(.req (bif (decide (x ≥ lo)) then true else true) (.ret .ret [(sB (bif (decide (x ≥ lo)) then (decide (x ≤ hi)) else false))] [])) := by kernel_rfl
end W74
open W74 (st74 tree74 il74)
theorem sWi_ok (args : List Value) (v : Value) (e : sWi args = some (true, v)) : args.all (belowV 0) = true ∧ belowV 0 v = true ∧ Sim Try.prog 74 args [] fun v1 _ => v1 = v := by
 unfold sWi at e
 split at e
 ·rename_i x lo hi
  cases e
  refine ⟨rfl, rfl, ?_⟩
  have := fnS_tree (Q := fun v _ => v = .bool (wB x lo hi)) mixed (WB.gE_ok 0) (WB.gE_q 0) (WB.cE_ok 0) st74 (tree74 x lo hi) ⟨rfl, rfl⟩ (by
   have key : (bif (decide (x ≥ lo)) then (decide (x ≤ hi)) else false) = wB x lo hi := by
    unfold wB
    by_cases h1 : lo ≤ x <;> by_cases h2 : x ≤ hi <;> simp [h1, h2]
   exact ⟨by cases (decide (x ≥ lo)) <;> rfl, congrArg Value.bool key⟩)
  simpa [denH, denL, denF, denV, denA, den0] using this
 ·cases e
def tblD : Plain := [(74, sWi)]
theorem tblD_ok : PlainOk Try.prog tblD := .cons sWi_ok .nil
namespace A
noncomputable abbrev gE (k : Nat) : Env := inE tblD [] k noEnv
noncomputable abbrev cE (k : Nat) : CallS := callS tblD [] noEnv 100 k
theorem gE_q (k : Nat) : QuietEnv qt (Plain.env tblD (gE k)) := Plain.quiet (inE_quiet noEnv_quiet (fun f F h => by cases h) k)
theorem gE_ok (k : Nat) : EnvOk Try.prog (Plain.env tblD (gE k)) := Plain.ok tblD_ok (inE_ok (qt := qt) mixed tblD_ok .nil (fun f F h => by cases h) noEnv_ok noEnv_quiet k)
theorem cE_ok (k : Nat) : CallOk (Plain.env tblD (gE k)) (cE k) := callS_ok k
def body94_0 : IL := .seq (.reg [ oT 15 (.bin .lss (.tmp 14) (.tmp 13))]) (.seq (.ite (.tmp 15) (.skip) (.exit 0)) (.seq (.block 1 (.seq (.reg [ oT 16 (.iadr 2 none (.tmp 12) (.tmp 14)), oT 17 (.load (.tmp 16) (some 2)), oT 7 (.alloc [(.int .i64 0), (.int .i64 0)]), oN (.store (.tmp 7) (.tmp 17) 2)]) (.seq (.seq (.reg [ oT 18 (.fadr 0 (.tmp 7)), oT 19 (.load (.tmp 18) none), oT 20 (.mov (.tmp 4)), oT 21 (.bin .leq (.tmp 19) (.tmp 20)), oT 22 (.mov (.tmp 21)), ⟨(some 23), (some (22, false)), .fadr 1 (.tmp 7)⟩, ⟨(some 24), (some (22, false)), .load (.tmp 23) none⟩, ⟨(some 25), (some (22, false)), .mov (.tmp 5)⟩, ⟨(some 26), (some (22, false)), .bin .sub (kI 1099511627776) (.tmp 25)⟩, ⟨(some 27), (some (22, false)), .call 74 [(.tmp 24), (kI 0), (.tmp 26)]⟩, ⟨(some 28), (some (22, false)), .un .not (.tmp 27)⟩, oT 29 (.pick (.tmp 22) (.const (.bool true)) (.tmp 28))]) (.ite (.tmp 29) (.seq (.reg [ oT 2 (.mov (kI 0)), oT 3 (.mov (.const (.bool false)))]) (.ret)) (.skip))) (.seq (.reg [ oT 30 (.fadr 0 (.tmp 7)), oT 31 (.load (.tmp 30) none), oT 4 (.mov (.tmp 31))]) (.reg [ oT 32 (.mov (.tmp 5)), oT 33 (.fadr 1 (.tmp 7)), oT 34 (.load (.tmp 33) none), oT 35 (.bin .add (.tmp 32) (.tmp 34)), oT 5 (.mov (.tmp 35))]))))) (.reg [ oT 36 (.bin .add (.tmp 14) (kI 1)), oT 14 (.mov (.tmp 36))])))
def il94 : FnIL := ⟨38, [.tmp 2, .tmp 3], .seq (.reg [ oT 2 (.mov (kI 0)), oT 3 (.mov (.const (.bool false)))]) (.seq (.seq (.reg [ oT 8 (.mov (.tmp 0)), oT 9 (.len (.tmp 8)), oT 10 (.call 74 [(.tmp 9), (kI 1), (kI 64)]), oT 11 (.un .not (.tmp 10))]) (.ite (.tmp 11) (.seq (.reg [ oT 2 (.mov (kI 0)), oT 3 (.mov (.const (.bool false)))]) (.ret)) (.skip))) (.seq (.reg [ oT 4 (.mov (kI 0)), oT 5 (.mov (kI 0))]) (.seq (.seq (.reg [ oT 12 (.mov (.tmp 0)), oT 13 (.len (.tmp 12)), oT 14 (.mov (kI 0))]) (.block 0 (.loop (body94_0)))) (.seq (.reg [ oT 37 (.mov (.tmp 5)), oT 2 (.mov (.tmp 37)), oT 3 (.mov (.const (.bool true)))]) (.ret)))))⟩
theorem st94 : stF Try.prog qt 94 = some il94 := by kernel_rfl
theorem tree94t (aa : Option Addr) (na ca : Nat) (i last all x0 x1 : Int) (b1 o1 : Nat) (H J : Heap) : (fun (Z0 : SFr) => (fun (Z1 : SH) => (fun (Z2 : Value) => pieceS tblD (gE 0) (cE 0) 100 (fun i => exL i body94_0 || inL [2, 3, 5] i) body94_0 (.sym (.pur 22000016 (.pointer (some ⟨b1, o1, none⟩)) (.bas 7000017 Z2 (.join 7 (.con (.con (.con (.con (.con (.con (.con .nil))))))) (.con (.con (.con (.con (.con (.con (.con .nil))))))) (.sym .nil .nil)))) .nil) Z0 [.seg H, .seg J] =
(.br (decide (i < (na : Int)))
 (.claim (opA (Plain.env tblD (gE 0)) (.iadr 2 none (.const (.slice aa na ca)) (kI i)) [] [] = some ((.pointer (some ⟨b1, o1, none⟩)), []))
 (.claim (opA (Plain.env tblD (gE 0)) (.load (.const (.pointer (some ⟨b1, o1, none⟩))) (some 2)) [] H = some (Z2, H))
 (.req (bif (decide (x0 ≤ last)) then true else true) (.br (bif (decide (x0 ≤ last)) then true else (!(wB x1 0 (IntKind.wrap .i64 (1099511627776 - all)))))
 (.ret .ret Z0 Z1)
 (.ret .normal (frS 38 [(2, (sI 0)), (3, (sB false)), (4, (sI x0)), (5, (sI (IntKind.wrap .i64 (all + x1)))), (12, (rS aa na ca)), (13, (sI (na : Int))), (14, (sI (IntKind.wrap .i64 (i + 1))))]) Z1)))))
 (.ret (.exit 0) Z0 [.seg H, .seg J]))) (.agg ⟨[(.int .i64 x0), (.int .i64 x1)]⟩)) [.seg H, .seg J, .blk .fix [(sI x0), (sI x1)]]) (frS 38 [(2, (sI 0)), (3, (sB false)), (4, (sI last)), (5, (sI all)), (12, (rS aa na ca)), (13, (sI (na : Int))), (14, (sI i))]) := by show _ = _; kernel_rfl
theorem tree94s (aa : Option Addr) (na ca : Nat) (H : Heap) : fnS tblD (gE 0) (cE 0) 100 il94 (.yes .nil) [(rS aa na ca)] [.seg H] =
(.req true (.req (!(wB (na : Int) 1 64)) (.ret .ret [(.raw (.tuple ⟨[(.int .i64 0), (.bool false)]⟩))] [.seg H]))) := by kernel_rfl
theorem tree94n (aa : Option Addr) (na ca : Nat) (q : Bool) (all : Int) (H X : Heap) : (fun (Z0 : SFr) => (fun (Z1 : SH) => fnS tblD (gE 0) (cE 0) 100 il94 (.no (.lp2 0 [2, 3, 5] q Z0 ⟨[], [.seg X]⟩ Z0 ⟨[], [.seg X]⟩ .nil .nil)) [(rS aa na ca)] [.seg H] =
(.req true (.req (!(!(wB (na : Int) 1 64))) (.claim (Wp (Plain.env tblD (gE 0)) (inL [2, 3, 5]) (.block 0 (.loop body94_0)) (denF [.seg H] (frS 38 [(2, (sI 0)), (3, (sB false)), (4, (sI 0)), (5, (sI 0)), (12, (rS aa na ca)), (13, (sI (na : Int))), (14, (sI 0))])) (denH [.seg H]) fun e_ s_ h_ => if q then e_ = .normal ∧ s_ = denF Z1 Z0 ∧ h_ = denH Z1 else e_ = .ret ∧ s_ = denF Z1 Z0 ∧ h_ = denH Z1)
 (.br q
 (.ret .ret [(.raw (.tuple ⟨[(.int .i64 all), (.bool true)]⟩))] Z1)
 (.ret .ret [(.raw (.tuple ⟨[(.int .i64 0), (.bool false)]⟩))] Z1)))))) [.seg H, .seg X]) (frS 38 [(2, (sI 0)), (3, (sB false)), (5, (sI all))]) := by show _ = _; kernel_rfl
def lnG : Int → Int → List R2 → Int × Bool
 | _, all, [] => (all, true)
 | last, all, x :: r => if x.a ≤ last ∨ ¬ (0 ≤ x.b ∧ x.b ≤ 1099511627776 - all) then (0, false) else lnG x.a (all + x.b) r
def lnF (l : List R2) : Int × Bool := if 1 ≤ l.length ∧ l.length ≤ 64 then lnG 0 0 l else (0, false)
abbrev fr94 (aa : Option Addr) (n ca : Nat) (last all i : Int) : SFr := frS 38 [(2, (sI 0)), (3, (sB false)), (4, (sI last)), (5, (sI all)), (12, (rS aa n ca)), (13, (sI (n : Int))), (14, (sI i))]
theorem loop94 {H : Heap} {aa : Option Addr} {ca : Nat} {l : List R2} (ha : RowsW 2 H (.slice aa l.length ca) (l.map e2)) (hl : l.length ≤ 64) :
  Wp (Plain.env tblD (gE 0)) (inL [2, 3, 5]) (.block 0 (.loop body94_0)) (denF [.seg H] (fr94 aa l.length ca 0 0 0)) (denH [.seg H]) fun e s h => ∃ (X : Heap) (all : Int), s = denF [.seg H, .seg X] (frS 38 [(2, (sI 0)), (3, (sB false)), (5, (sI all))]) ∧ h = denH [.seg H, .seg X] ∧
   ((e = .normal ∧ lnG 0 0 l = (all, true)) ∨ (e = .ret ∧ lnG 0 0 l = (0, false))) := by
 refine Wp.bl (fun m t h => ∃ (i : Nat) (J : Heap) (last all : Int), i + m = l.length ∧ t = denF [.seg H, .seg J] (fr94 aa l.length ca last all i) ∧ h = denH [.seg H, .seg J] ∧ 0 ≤ all ∧ all ≤ 1099511627776 ∧ lnG 0 0 l = lnG last all (l.drop i)) ?_ l.length _ _
  ⟨0, [], 0, 0, by omega, by show denF _ _ = denF _ _; kernel_rfl, by simp [denH, denL, It.den], by omega, by omega, rfl⟩
 rintro m t h ⟨i, J, last, all, hi, rfl, rfl, h0, h1, hg⟩
 by_cases hlt : i < l.length
 ·obtain ⟨x, hx⟩ := getE hlt
  obtain ⟨b1, o1, r1⟩ := ha.rowM hx
  have hd : l.drop i = x :: l.drop (i + 1) := by rw [List.drop_eq_getElem_cons hlt]; congr 1; exact (List.getElem?_eq_some_iff.1 hx).2
  rw [hd] at hg
  have w1 : IntKind.wrap .i64 (1099511627776 - all) = 1099511627776 - all := wrap64 (by omega) (by omega)
  have key : (bif (decide (x.a ≤ last)) then true else (!(wB x.b 0 (IntKind.wrap .i64 (1099511627776 - all))))) = true ↔ (x.a ≤ last ∨ ¬ (0 ≤ x.b ∧ x.b ≤ 1099511627776 - all)) := by
   rw [w1]
   by_cases q : x.a ≤ last
   ·simp [q]
   ·simp only [q, decide_false, cond_false, Bool.not_eq_true', wB_f, false_or]
  refine Wp.tree (cE_ok 0) (tree94t aa l.length ca i last all x.a x.b b1 o1 H J) ⟨rfl, rfl⟩ ⟨fun _ => ⟨r1.ptr _ _, r1.all _, by cases (decide (x.a ≤ last)) <;> rfl, fun hc => end_ret ?_, fun hc => end_next (m - 1) (by omega) ?_⟩, fun q => by simp at q; omega⟩
  ·have hc' := key.1 hc
   simp only [lnG, if_pos hc'] at hg
   exact ⟨J ++ [some ⟨.fix, e2 x⟩], all, by show denF _ _ = denF _ _; kernel_rfl, by simp [denH, denL, It.den, den0, e2], .inr ⟨rfl, hg⟩⟩
  ·have hc' : ¬ (x.a ≤ last ∨ ¬ (0 ≤ x.b ∧ x.b ≤ 1099511627776 - all)) := fun q => by rw [key.2 q] at hc; cases hc
   simp only [lnG, if_neg hc'] at hg
   refine ⟨i + 1, J ++ [some ⟨.fix, e2 x⟩], x.a, all + x.b, by omega, ?_, by simp [denH, denL, It.den, den0, e2], by omega, by omega, hg⟩
   rw [wrap64 (x := (i : Int) + 1) (by omega) (by omega), wrap64 (x := all + x.b) (by omega) (by omega)]
   show denF _ _ = denF _ _
   kernel_rfl
 ·have hil : i = l.length := by omega
  refine Wp.tree (cE_ok 0) (tree94t aa l.length ca i last all 0 0 0 0 H J) ⟨rfl, rfl⟩ ⟨fun q => by simp at q; omega, fun _ => end_exit ⟨J, all, by show denF _ _ = denF _ _; kernel_rfl, rfl, .inl ⟨rfl, ?_⟩⟩⟩
  rw [hg, hil, List.drop_length]; rfl
def pre1 {α : Type} (w : Nat) (enc : α → List Value) (p : List α → Prop) (l : List α) (args : List Value) (h : Heap) : Prop := ∃ s, args = [s] ∧ RowsW w h s (l.map enc) ∧ p l
theorem pre1_u {α : Type} {w : Nat} {enc : α → List Value} {p : List α → Prop} (hi : ∀ x y, enc x = enc y → x = y) {F : List α → Heap → Value × Heap} {l : List α} {args : List Value} {h : Heap} (a : pre1 w enc p l args h) : smry (pre1 w enc p) F args h = some (F l h) :=
 smry_some a fun y ⟨s', e', hs', _⟩ => by
  obtain ⟨s, e, hs, _⟩ := a
  subst e
  simp only [List.cons.injEq, and_true] at e'
  subst e'
  rw [map_inj hi (hs'.uniq hs)]
def tupIB (p : Int × Bool) : Value := .tuple ⟨[.int .i64 p.1, .bool p.2]⟩
def anyL {α : Type} (l : List α) : Prop := l.length ≤ 1099511627776
theorem sim94 : Summ Try.prog 94 (smry (pre1 2 e2 anyL) fun l h => (tupIB (lnF l), h)) := smry_ok fun l args H ⟨s, e, hs, hl⟩ => by
 subst e
 obtain ⟨aa, ca, rfl⟩ := hs.slcM
 refine Sim.plain (R := fun v => v = tupIB (lnF l)) ?_ (fun v hv => by subst hv; rfl)
 by_cases hn : 1 ≤ l.length ∧ l.length ≤ 64
 ·obtain ⟨e, t1, h1, ⟨X, all, rfl, rfl, hk⟩, w⟩ := (loop94 hs hn.2).exact
  have hw : wB (l.length : Int) 1 64 = true := wB_t.2 ⟨by omega, by omega⟩
  rcases hk with ⟨rfl, hg⟩ | ⟨rfl, hg⟩
  ·have := fnS_tree (Q := fun v h' => v = tupIB (lnF l) ∧ ∃ X, h' = H ++ X) mixed (gE_ok 0) (gE_q 0) (cE_ok 0) st94 (tree94n aa l.length ca true all H X) ⟨rfl, rfl⟩ ⟨rfl, by rw [hw]; rfl, w, fun _ => ⟨by rw [lnF, if_pos hn, hg]; rfl, X, by simp [denH, denL, It.den]⟩, fun q => by cases q⟩
   simpa [denH, denL, It.den, denF, denV, denA, den0] using this
  ·have := fnS_tree (Q := fun v h' => v = tupIB (lnF l) ∧ ∃ X, h' = H ++ X) mixed (gE_ok 0) (gE_q 0) (cE_ok 0) st94 (tree94n aa l.length ca false all H X) ⟨rfl, rfl⟩ ⟨rfl, by rw [hw]; rfl, w, And.intro (fun q => by cases q) (fun _ => ⟨by rw [lnF, if_pos hn, hg]; rfl, X, by simp [denH, denL, It.den]⟩)⟩
   simpa [denH, denL, It.den, denF, denV, denA, den0] using this
 ·have hw : wB (l.length : Int) 1 64 = false := wB_f.2 (by omega)
  have := fnS_tree (Q := fun v h' => v = tupIB (lnF l) ∧ ∃ X, h' = H ++ X) mixed (gE_ok 0) (gE_q 0) (cE_ok 0) st94 (tree94s aa l.length ca H) ⟨rfl, rfl⟩ ⟨rfl, by rw [hw]; rfl, by rw [lnF, if_neg hn]; rfl, [], by simp [denH, denL, It.den]⟩
  simpa [denH, denL, It.den, denF, denV, denA, den0] using this
end A
end D
end Go.Proofs.Ytgdojnamjkhknaa
