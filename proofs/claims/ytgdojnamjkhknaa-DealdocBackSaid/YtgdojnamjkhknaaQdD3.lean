/-
  deal: which steps may be a mode's; the document's own answer to that is the same.
-/
import Derived.Test.YtgdojnamjkhknaaQdD2
namespace Go.Proofs.Ytgdojnamjkhknaa
open Go.Am
set_option linter.all false
set_option maxRecDepth 100000
namespace D
open A (tupIB pre1 pre1_u anyL)
def stOk (x : R2) : Prop := (1 ≤ x.a ∧ x.a ≤ 7) ∧ (0 ≤ x.b ∧ x.b ≤ if x.a = 3 then 7 else 0)
instance (x : R2) : Decidable (stOk x) := by unfold stOk; exact inferInstance
def stpG (pre : List R2) : List R2 → Bool
 | [] => true
 | x :: r => if ¬ stOk x ∨ has2 pre x = true then false else stpG (pre ++ [x]) r
def stpF (l : List R2) : Bool := if 1 ≤ l.length ∧ l.length ≤ 16 then stpG [] l else false
namespace S
noncomputable def gK : Env := fun f => match f with
 | 75 => smry C.pre75 fun x h => (.bool (has2 x.1 x.2), h)
 | _ => fun _ _ => none
theorem gK_ok : EnvOk Try.prog gK := fun f => by
 unfold gK
 split
 ·exact C.sim75
 ·exact fun args h v h' e => by cases e
theorem gK_q : QuietEnv qt gK := fun f args h v h' hf e => by cases hf
noncomputable abbrev gE (k : Nat) : Env := inE tblD [] k gK
noncomputable abbrev cE (k : Nat) : CallS := callS tblD [] gK 100 k
theorem gE_q (k : Nat) : QuietEnv qt (Plain.env tblD (gE k)) := Plain.quiet (inE_quiet gK_q (fun f F h => by cases h) k)
theorem gE_ok (k : Nat) : EnvOk Try.prog (Plain.env tblD (gE k)) := Plain.ok tblD_ok (inE_ok (qt := qt) mixed tblD_ok .nil (fun f F h => by cases h) gK_ok gK_q k)
theorem cE_ok (k : Nat) : CallOk (Plain.env tblD (gE k)) (cE k) := callS_ok k
def body40_0 : IL := .seq (.reg [ oT 13 (.bin .lss (.tmp 12) (.tmp 11))]) (.seq (.ite (.tmp 13) (.skip) (.exit 0)) (.seq (.block 1 (.seq (.reg [ oT 14 (.mov (.tmp 12)), oT 15 (.iadr 2 none (.tmp 10) (.tmp 12)), oT 16 (.load (.tmp 15) (some 2)), oT 4 (.alloc [(.int .i64 0), (.int .i64 0)]), oT 3 (.mov (.tmp 14)), oN (.store (.tmp 4) (.tmp 16) 2)]) (.seq (.reg [ oT 5 (.mov (kI 0))]) (.seq (.seq (.reg [ oT 17 (.fadr 0 (.tmp 4)), oT 18 (.load (.tmp 17) none), oT 19 (.bin .eql (.tmp 18) (kI 3))]) (.ite (.tmp 19) (.reg [ oT 5 (.mov (kI 7))]) (.skip))) (.seq (.dreg [ oT 20 (.fadr 0 (.tmp 4)), oT 21 (.load (.tmp 20) none), oT 22 (.call 74 [(.tmp 21), (kI 1), (kI 7)]), oT 23 (.un .not (.tmp 22)), oT 24 (.mov (.tmp 23)), ⟨(some 25), (some (24, false)), .fadr 1 (.tmp 4)⟩, ⟨(some 26), (some (24, false)), .load (.tmp 25) none⟩, ⟨(some 27), (some (24, false)), .mov (.tmp 5)⟩, ⟨(some 28), (some (24, false)), .call 74 [(.tmp 26), (kI 0), (.tmp 27)]⟩, ⟨(some 29), (some (24, false)), .un .not (.tmp 28)⟩, oT 30 (.pick (.tmp 24) (.const (.bool true)) (.tmp 29)), oT 31 (.mov (.tmp 30)), ⟨(some 32), (some (31, false)), .mov (.tmp 0)⟩, ⟨(some 33), (some (31, false)), .mov (.tmp 3)⟩, ⟨(some 34), (some (31, false)), .slice 2 (.tmp 32) none (some (.tmp 33)) none⟩, ⟨(some 35), (some (31, false)), .load (.tmp 4) (some 2)⟩, ⟨(some 36), (some (31, false)), .call 75 [(.tmp 34), (.tmp 35)]⟩, oT 37 (.pick (.tmp 31) (.const (.bool true)) (.tmp 36))] []) (.ite (.tmp 37) (.seq (.reg [ oT 2 (.mov (.const (.bool false)))]) (.ret)) (.skip))))))) (.reg [ oT 38 (.bin .add (.tmp 12) (kI 1)), oT 12 (.mov (.tmp 38))])))
def il40 : FnIL := ⟨39, [.tmp 2], .seq (.reg [ oT 2 (.mov (.const (.bool false)))]) (.seq (.seq (.reg [ oT 6 (.mov (.tmp 0)), oT 7 (.len (.tmp 6)), oT 8 (.call 74 [(.tmp 7), (kI 1), (kI 16)]), oT 9 (.un .not (.tmp 8))]) (.ite (.tmp 9) (.seq (.reg [ oT 2 (.mov (.const (.bool false)))]) (.ret)) (.skip))) (.seq (.seq (.reg [ oT 10 (.mov (.tmp 0)), oT 11 (.len (.tmp 10)), oT 12 (.mov (kI 0))]) (.block 0 (.loop (body40_0)))) (.seq (.reg [ oT 2 (.mov (.const (.bool true)))]) (.ret))))⟩
theorem st40 : stF Try.prog qt 40 = some il40 := by kernel_rfl
theorem tree40t (aa ad : Option Addr) (na ca nd cd : Nat) (i x0 x1 : Int) (q : Bool) (b1 o1 : Nat) (H J : Heap) : (fun (Z0 : SFr) => (fun (Z1 : SH) => (fun (Z2 : Value) => (fun (Z3 : SFr) => (fun (Z4 : Value) => (fun (Z5 : IK) => (fun (Z6 : IK) => pieceS tblD (gE 0) (cE 0) 100 (fun i => exL i body40_0 || inL [2] i) body40_0 (.sym (.pur 22000015 (.pointer (some ⟨b1, o1, none⟩)) (.bas 7000016 Z2 (.sym (.join 6 (.con (.con (.con (.con (.con (.con .nil)))))) (.con (.con (.con (.con (.con (.con .nil)))))) (.sym (.con (.con (.con (.con (.con (.con .nil)))))) (.con (.con (.bas 17000034 Z4 (.con (.con (.use 26000036 (sB q) ⟨[], []⟩ (.con (.sym .nil .nil)))))))))) (.join 6 (.con (.con (.con (.con (.con (.con .nil)))))) (.con (.con (.con (.con (.con (.con .nil)))))) (.sym (.con (.con (.con (.con (.con (.con .nil)))))) (.con (.con (.bas 17000034 Z4 (.con (.con (.use 26000036 (sB q) ⟨[], []⟩ (.con (.sym .nil .nil))))))))))))) .nil) Z0 [.seg H, .seg J] =
(.br (decide (i < (na : Int)))
 (.claim (opA (Plain.env tblD (gE 0)) (.iadr 2 none (.const (.slice aa na ca)) (kI i)) [] [] = some ((.pointer (some ⟨b1, o1, none⟩)), []))
 (.claim (opA (Plain.env tblD (gE 0)) (.load (.const (.pointer (some ⟨b1, o1, none⟩))) (some 2)) [] H = some (Z2, H))
 (.br (x0 == 3)
 (.req true (.req true (.req (bif (!(wB x0 1 7)) then true else true) (.br (bif (!(wB x0 1 7)) then true else (!(wB x1 0 7)))
 (.ret .ret Z0 Z1)
 (.claim (opA (Plain.env tblD (gE 0)) Z5 [] H = some (Z4, H))
 (.claim (opA (Plain.env tblD (gE 0)) Z6 [] (denH Z1) = some ((.bool q), denH Z1))
 (.br q
 (.ret .ret Z0 Z1)
 (.ret .normal Z3 Z1))))))))
 (.req true (.req true (.req (bif (!(wB x0 1 7)) then true else true) (.br (bif (!(wB x0 1 7)) then true else (!(wB x1 0 0)))
 (.ret .ret Z0 Z1)
 (.claim (opA (Plain.env tblD (gE 0)) Z5 [] H = some (Z4, H))
 (.claim (opA (Plain.env tblD (gE 0)) Z6 [] (denH Z1) = some ((.bool q), denH Z1))
 (.br q
 (.ret .ret Z0 Z1)
 (.ret .normal Z3 Z1)))))))))))
 (.ret (.exit 0) Z0 [.seg H, .seg J]))) (.call 75 [(.const Z4), (.const Z2)])) (.slice 2 (.const (.slice aa na ca)) none (some (kI i)) none)) (.slice ad nd cd)) (frS 39 [(0, (rS aa na ca)), (2, (sB false)), (10, (rS aa na ca)), (11, (sI (na : Int))), (12, (sI (IntKind.wrap .i64 (i + 1))))])) (.agg ⟨[(.int .i64 x0), (.int .i64 x1)]⟩)) [.seg H, .seg J, .blk .fix [(sI x0), (sI x1)]]) (frS 39 [(0, (rS aa na ca)), (2, (sB false)), (10, (rS aa na ca)), (11, (sI (na : Int))), (12, (sI i))]) := by show _ = _; kernel_rfl
theorem tree40s (aa : Option Addr) (na ca : Nat) (H : Heap) : fnS tblD (gE 0) (cE 0) 100 il40 (.yes .nil) [(rS aa na ca)] [.seg H] =
(.req true (.req (!(wB (na : Int) 1 16)) (.ret .ret [(sB false)] [.seg H]))) := by kernel_rfl
theorem tree40n (aa : Option Addr) (na ca : Nat) (q : Bool) (H X : Heap) : (fun (Z0 : SFr) => (fun (Z1 : SH) => fnS tblD (gE 0) (cE 0) 100 il40 (.no (.lp2 0 [2] q Z0 ⟨[], [.seg X]⟩ Z0 ⟨[], [.seg X]⟩ .nil .nil)) [(rS aa na ca)] [.seg H] =
(.req true (.req (!(!(wB (na : Int) 1 16))) (.claim (Wp (Plain.env tblD (gE 0)) (inL [2]) (.block 0 (.loop body40_0)) (denF [.seg H] (frS 39 [(0, (rS aa na ca)), (2, (sB false)), (10, (rS aa na ca)), (11, (sI (na : Int))), (12, (sI 0))])) (denH [.seg H]) fun e_ s_ h_ => if q then e_ = .normal ∧ s_ = denF Z1 Z0 ∧ h_ = denH Z1 else e_ = .ret ∧ s_ = denF Z1 Z0 ∧ h_ = denH Z1)
 (.br q
 (.ret .ret [(sB true)] Z1)
 (.ret .ret [(sB false)] Z1)))))) [.seg H, .seg X]) (frS 39 [(2, (sB false))]) := by show _ = _; kernel_rfl
abbrev fr40 (aa : Option Addr) (n ca : Nat) (i : Int) : SFr := frS 39 [(0, (rS aa n ca)), (2, (sB false)), (10, (rS aa n ca)), (11, (sI (n : Int))), (12, (sI i))]
def inv40 (H : Heap) (aa : Option Addr) (ca : Nat) (l : List R2) (m : Nat) (t : Fr) (h : Heap) : Prop :=
 ∃ (i : Nat) (J : Heap), i + m = l.length ∧ t = denF [.seg H, .seg J] (fr40 aa l.length ca i) ∧ h = denH [.seg H, .seg J] ∧ stpG [] l = stpG (l.take i) (l.drop i)
theorem loop40 {H : Heap} {aa : Option Addr} {ca : Nat} {l : List R2} (ha : RowsW 2 H (.slice aa l.length ca) (l.map e2)) (hl : l.length ≤ 16) :
  Wp (Plain.env tblD (gE 0)) (inL [2]) (.block 0 (.loop body40_0)) (denF [.seg H] (fr40 aa l.length ca 0)) (denH [.seg H]) fun e s h => ∃ X : Heap, s = denF [.seg H, .seg X] (frS 39 [(2, (sB false))]) ∧ h = denH [.seg H, .seg X] ∧ ((e = .normal ∧ stpG [] l = true) ∨ (e = .ret ∧ stpG [] l = false)) := by
 refine Wp.bl (inv40 H aa ca l) ?_ l.length _ _ ⟨0, [], by omega, by show denF _ _ = denF _ _; kernel_rfl, by simp [denH, denL, It.den], rfl⟩
 rintro m t h ⟨i, J, hi, rfl, rfl, hg⟩
 by_cases hlt : i < l.length
 ·obtain ⟨x, hx⟩ := getE hlt
  obtain ⟨b1, o1, r1⟩ := ha.rowM hx
  obtain ⟨d, hcut, hd⟩ := ha.cutM (lo := 0) (hi := i) (by omega) (by omega) none (some (kI (i : Nat))) (.inl ⟨rfl, rfl⟩) (.inr rfl)
  rw [List.drop_zero] at hd
  obtain ⟨ad, cd, rfl⟩ := hd.slcM
  have hdl : (l.take i).length = i := by simp; omega
  rw [hdl] at hcut hd
  rw [drop_at hx] at hg
  have c75 : ∀ Γ : Env, gK 75 [.slice ad i cd, .agg ⟨e2 x⟩] (denH [.seg H, .seg J, .blk .fix [sI x.a, sI x.b]]) = some (.bool (has2 (l.take i) x), denH [.seg H, .seg J, .blk .fix [sI x.a, sI x.b]]) := fun _ => C.call75 (by
   have := hd.app (J ++ [some ⟨.fix, e2 x⟩])
   simpa [denH, denL, It.den, den0, e2] using this) (by rw [hdl]; omega)
  have stop : ∀ (hb : stpG [] l = false), loopK 0 (inL [2]) (inv40 H aa ca l) m (fun e s h => ∃ X : Heap, s = denF [.seg H, .seg X] (frS 39 [(2, (sB false))]) ∧ h = denH [.seg H, .seg X] ∧ ((e = .normal ∧ stpG [] l = true) ∨ (e = .ret ∧ stpG [] l = false))) .ret (denF [.seg H, .seg J, .blk .fix [sI x.a, sI x.b]] (fr40 aa l.length ca i)) (denH [.seg H, .seg J, .blk .fix [sI x.a, sI x.b]]) := fun hb =>
   bl_ret (id := 0) ⟨J ++ [some ⟨.fix, e2 x⟩], by show denF _ _ = denF _ _; kernel_rfl, by simp [denH, denL, It.den, den0, e2], .inr ⟨rfl, hb⟩⟩
  have next : ∀ (hb : stpG [] l = stpG (l.take (i + 1)) (l.drop (i + 1))), loopK 0 (inL [2]) (inv40 H aa ca l) m (fun e s h => ∃ X : Heap, s = denF [.seg H, .seg X] (frS 39 [(2, (sB false))]) ∧ h = denH [.seg H, .seg X] ∧ ((e = .normal ∧ stpG [] l = true) ∨ (e = .ret ∧ stpG [] l = false))) .normal (denF [.seg H, .seg J, .blk .fix [sI x.a, sI x.b]] (fr40 aa l.length ca (IntKind.wrap .i64 ((i : Int) + 1)))) (denH [.seg H, .seg J, .blk .fix [sI x.a, sI x.b]]) := fun hb =>
   ⟨m - 1, by omega, i + 1, J ++ [some ⟨.fix, e2 x⟩], by omega, by rw [wrap64 (by omega) (by omega)]; show denF _ _ = denF _ _; kernel_rfl, by simp [denH, denL, It.den, den0, e2], hb⟩
  have good : ∀ (q : Bool), has2 (l.take i) x = q → (stOk x) → if q then stpG [] l = false else stpG [] l = stpG (l.take (i + 1)) (l.drop (i + 1)) := fun q hq hok => by
   cases q with
   | true => simp only [stpG, hq, or_true, if_true] at hg; simpa using hg
   | false =>
    have : ¬ (¬ stOk x ∨ has2 (l.take i) x = true) := by rw [hq]; simp [hok]
    simp only [stpG, if_neg this] at hg
    rw [WB.take_one hx]
    simpa using hg
  have bad : ¬ stOk x → stpG [] l = false := fun hno => by
   simp only [stpG, hno, not_false_eq_true, true_or, if_true] at hg; exact hg
  by_cases h3 : x.a = 3
  ·have key : (bif (!(wB x.a 1 7)) then true else (!(wB x.b 0 7))) = true ↔ ¬ stOk x := by
    unfold stOk
    rw [if_pos h3, wB_t.2 (show 1 ≤ x.a ∧ x.a ≤ 7 by omega)]
    simp only [Bool.not_true, cond_false, Bool.not_eq_true', wB_f]
    omega
   refine Wp.tree (cE_ok 0) (tree40t aa ad l.length ca i cd i x.a x.b (has2 (l.take i) x) b1 o1 H J) ⟨rfl, rfl⟩ ⟨fun _ => ⟨r1.ptr _ _, r1.all _, fun _ => ⟨rfl, rfl, by simp, fun hc => stop (bad (key.1 hc)), fun hc => ⟨hcut _, opA_call (args := [_, _]) rfl (c75 noEnv), fun hq => stop ?_, fun hq => next ?_⟩⟩, fun q => by simp [h3] at q⟩, fun q => by simp at q; omega⟩
   all_goals
    have hok : stOk x := Classical.byContradiction fun q => by rw [key.2 q] at hc; cases hc
    have := good _ hq hok
    simpa using this
  ·have key : (bif (!(wB x.a 1 7)) then true else (!(wB x.b 0 0))) = true ↔ ¬ stOk x := by
    unfold stOk
    rw [if_neg h3]
    by_cases q1 : 1 ≤ x.a ∧ x.a ≤ 7
    ·rw [wB_t.2 q1]; simp only [Bool.not_true, cond_false, Bool.not_eq_true', wB_f]; omega
    ·rw [wB_f.2 q1]; simp; omega
   refine Wp.tree (cE_ok 0) (tree40t aa ad l.length ca i cd i x.a x.b (has2 (l.take i) x) b1 o1 H J) ⟨rfl, rfl⟩ ⟨fun _ => ⟨r1.ptr _ _, r1.all _, fun q => by simp [h3] at q, fun _ => ⟨rfl, rfl, by simp, fun hc => stop (bad (key.1 hc)), fun hc => ⟨hcut _, opA_call (args := [_, _]) rfl (c75 noEnv), fun hq => stop ?_, fun hq => next ?_⟩⟩⟩, fun q => by simp at q; omega⟩
   all_goals
    have hok : stOk x := Classical.byContradiction fun q => by rw [key.2 q] at hc; cases hc
    have := good _ hq hok
    simpa using this
 ·have hil : i = l.length := by omega
  refine Wp.tree (cE_ok 0) (tree40t aa aa l.length ca 0 0 i 0 0 false 0 0 H J) ⟨rfl, rfl⟩ ⟨fun q => by simp at q; omega, fun _ => end_exit ⟨J, by show denF _ _ = denF _ _; kernel_rfl, rfl, .inl ⟨rfl, ?_⟩⟩⟩
  rw [hg, hil, List.drop_length]; rfl
theorem sim40 : Summ Try.prog 40 (smry (pre1 2 e2 anyL) fun l h => (.bool (stpF l), h)) := smry_ok fun l args H ⟨s, e, hs, hl⟩ => by
 subst e
 obtain ⟨aa, ca, rfl⟩ := hs.slcM
 refine Sim.plain (R := fun v => v = .bool (stpF l)) ?_ (fun v hv => by subst hv; rfl)
 by_cases hn : 1 ≤ l.length ∧ l.length ≤ 16
 ·obtain ⟨e, t1, h1, ⟨X, rfl, rfl, hk⟩, w⟩ := (loop40 hs hn.2).exact
  have hw : wB (l.length : Int) 1 16 = true := wB_t.2 ⟨by omega, by omega⟩
  rcases hk with ⟨rfl, hg⟩ | ⟨rfl, hg⟩
  ·have := fnS_tree (Q := fun v h' => v = .bool (stpF l) ∧ ∃ X, h' = H ++ X) mixed (gE_ok 0) (gE_q 0) (cE_ok 0) st40 (tree40n aa l.length ca true H X) ⟨rfl, rfl⟩ ⟨rfl, by rw [hw]; rfl, w, And.intro (fun _ => ⟨by rw [stpF, if_pos hn, hg]; rfl, X, by simp [denH, denL, It.den]⟩) (fun q => by cases q)⟩
   simpa [denH, denL, It.den, denF, denV, denA, den0] using this
  ·have := fnS_tree (Q := fun v h' => v = .bool (stpF l) ∧ ∃ X, h' = H ++ X) mixed (gE_ok 0) (gE_q 0) (cE_ok 0) st40 (tree40n aa l.length ca false H X) ⟨rfl, rfl⟩ ⟨rfl, by rw [hw]; rfl, w, And.intro (fun q => by cases q) (fun _ => ⟨by rw [stpF, if_pos hn, hg]; rfl, X, by simp [denH, denL, It.den]⟩)⟩
   simpa [denH, denL, It.den, denF, denV, denA, den0] using this
 ·have hw : wB (l.length : Int) 1 16 = false := wB_f.2 (by omega)
  have := fnS_tree (Q := fun v h' => v = .bool (stpF l) ∧ ∃ X, h' = H ++ X) mixed (gE_ok 0) (gE_q 0) (cE_ok 0) st40 (tree40s aa l.length ca H) ⟨rfl, rfl⟩ ⟨rfl, by rw [hw]; rfl, by rw [stpF, if_neg hn]; rfl, [], by simp [denH, denL, It.den]⟩
  simpa [denH, denL, It.den, denF, denV, denA, den0] using this
end S
end D
end Go.Proofs.Ytgdojnamjkhknaa
