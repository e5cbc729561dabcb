/-
  pool: New, Copy, Loans, Balance, Lost, Find.
-/
import Derived.Test.YtgdojnamjkhknaaQbPo1
namespace Go.Proofs.Ytgdojnamjkhknaa
open Go.Am
set_option linter.all false
set_option maxRecDepth 100000
namespace PO
abbrev pB (v : Value) : It := .blk .fix [.raw v]
def sumF (f : L5 → Int) : Int → List L5 → Int
 | n, [] => n
 | n, x :: r => sumF f (wr (n + f x)) r
def preP (l : List L5) (args : List Value) (h : Heap) : Prop := ∃ p s, args = [.pointer (some ⟨p, 0, none⟩)] ∧ rd h p = some ⟨.fix, [s]⟩ ∧ RowsW 5 h s (l.map e5) ∧ l.length ≤ 1099511627776
theorem preP_u {l m : List L5} {args : List Value} {h : Heap} (a : preP l args h) (b : preP m args h) : m = l := by
 obtain ⟨p, s, rfl, hp, hs, _⟩ := a
 obtain ⟨p', s', e, hp', hs', _⟩ := b
 simp only [List.cons.injEq, and_true, Value.pointer.injEq, Option.some.injEq, Addr.mk.injEq] at e
 subst e
 rw [hp] at hp'
 simp only [Option.some.injEq, Blk.mk.injEq, List.cons.injEq, and_true, true_and] at hp'
 subst hp'
 exact (map_inj e5_1 (hs.uniq hs')).symm
theorem preP_call {F : List L5 → Heap → Value × Heap} {h : Heap} {p : Nat} {s : Value} {l : List L5} (hp : rd h p = some ⟨.fix, [s]⟩) (hs : RowsW 5 h s (l.map e5)) (hn : l.length ≤ 1099511627776) : smry preP F [.pointer (some ⟨p, 0, none⟩)] h = some (F l h) :=
 smry_some ⟨p, s, rfl, hp, hs, hn⟩ fun y hy => by rw [preP_u ⟨p, s, rfl, hp, hs, hn⟩ hy]
namespace B
open WB (gE cE gE_ok gE_q cE_ok)
def il47 : FnIL := ⟨22, [.tmp 2], .seq (.reg [ oT 2 (.mov (kI 0))]) (.seq (.reg [ oT 3 (.mov (kI 0))]) (.seq (.seq (.reg [ oT 6 (.mov (.tmp 0)), oT 7 (.nilck (.tmp 6)), oT 8 (.fadr 0 (.tmp 7)), oT 9 (.load (.tmp 8) none), oT 10 (.len (.tmp 9)), oT 11 (.mov (kI 0))]) (.block 0 (.loop (.seq (.reg [ oT 12 (.bin .lss (.tmp 11) (.tmp 10))]) (.seq (.ite (.tmp 12) (.skip) (.exit 0)) (.seq (.block 1 (.seq (.reg [ oT 13 (.iadr 5 none (.tmp 9) (.tmp 11)), oT 14 (.load (.tmp 13) (some 5)), oT 5 (.alloc [(.int .i64 0), (.int .i64 0), (.int .i64 0), (.int .i64 0), (.bool false)]), oN (.store (.tmp 5) (.tmp 14) 5)]) (.reg [ oT 15 (.mov (.tmp 3)), oT 16 (.fadr 0 (.tmp 5)), oT 17 (.fadr 1 (.tmp 16)), oT 18 (.load (.tmp 17) none), oT 19 (.bin .add (.tmp 15) (.tmp 18)), oT 3 (.mov (.tmp 19))]))) (.reg [ oT 20 (.bin .add (.tmp 11) (kI 1)), oT 11 (.mov (.tmp 20))]))))))) (.seq (.reg [ oT 21 (.mov (.tmp 3)), oT 2 (.mov (.tmp 21))]) (.ret))))⟩
theorem st47 : stF Try.prog qt 47 = some il47 := by kernel_rfl
def body47_0 : IL := .seq (.reg [ oT 12 (.bin .lss (.tmp 11) (.tmp 10))]) (.seq (.ite (.tmp 12) (.skip) (.exit 0)) (.seq (.block 1 (.seq (.reg [ oT 13 (.iadr 5 none (.tmp 9) (.tmp 11)), oT 14 (.load (.tmp 13) (some 5)), oT 5 (.alloc [(.int .i64 0), (.int .i64 0), (.int .i64 0), (.int .i64 0), (.bool false)]), oN (.store (.tmp 5) (.tmp 14) 5)]) (.reg [ oT 15 (.mov (.tmp 3)), oT 16 (.fadr 0 (.tmp 5)), oT 17 (.fadr 1 (.tmp 16)), oT 18 (.load (.tmp 17) none), oT 19 (.bin .add (.tmp 15) (.tmp 18)), oT 3 (.mov (.tmp 19))]))) (.reg [ oT 20 (.bin .add (.tmp 11) (kI 1)), oT 11 (.mov (.tmp 20))])))
def hn47t (s : Option Addr) (n c : Nat) (t i x0 x1 x2 x3 : Int) (xb : Bool) (b1 o1 : Nat) (H J : Heap) : Hs := (.sym (.pur 22000013 (.pointer (some ⟨b1, o1, none⟩)) (.bas 7000014 (.agg ⟨[(.int .i64 x0), (.int .i64 x1), (.int .i64 x2), (.int .i64 x3), (.bool xb)]⟩) .nil)) .nil)
theorem tree47t (s : Option Addr) (n c : Nat) (t i x0 x1 x2 x3 : Int) (xb : Bool) (b1 o1 : Nat) (H J : Heap) : pieceS [] (gE 0) (cE 0) 100 (fun i => exL i body47_0 || inL [2, 3] i) body47_0 (hn47t s n c t i x0 x1 x2 x3 xb b1 o1 H J) (frS 22 [(2, (sI 0)), (3, (sI t)), (9, (rS s n c)), (10, (sI (n : Int))), (11, (sI i))]) [.seg H, .seg J] =
(.br (decide (i < (n : Int)))
 (.claim (opA (Plain.env [] (gE 0)) (.iadr 5 none (.const (.slice s n c)) (kI i)) [] [] = some ((.pointer (some ⟨b1, o1, none⟩)), []))
 (.claim (opA (Plain.env [] (gE 0)) (.load (.const (.pointer (some ⟨b1, o1, none⟩))) (some 5)) [] H = some ((.agg ⟨[(.int .i64 x0), (.int .i64 x1), (.int .i64 x2), (.int .i64 x3), (.bool xb)]⟩), H))
 (.ret .normal (frS 22 [(2, (sI 0)), (3, (sI (IntKind.wrap .i64 (t + x1)))), (9, (rS s n c)), (10, (sI (n : Int))), (11, (sI (IntKind.wrap .i64 (i + 1))))]) [.seg H, .seg J, .blk .fix [(sI x0), (sI x1), (sI x2), (sI x3), (sB xb)]])))
 (.ret (.exit 0) (frS 22 [(2, (sI 0)), (3, (sI t)), (9, (rS s n c)), (10, (sI (n : Int))), (11, (sI i))]) [.seg H, .seg J])) := by kernel_rfl
def hn47w (p : Nat) (s : Option Addr) (n c : Nat) (r : Int) (H X : Heap) : Hs := (.bas 7000009 (.slice s n c) (.lp 0 [2, 3] (frS 22 [(2, (sI 0)), (3, (sI r))]) ⟨[], [.seg X]⟩ .nil))
theorem tree47w (p : Nat) (s : Option Addr) (n c : Nat) (r : Int) (H X : Heap) : fnS [] (gE 0) (cE 0) 100 il47 (hn47w p s n c r H X) [(.raw (.pointer (some ⟨p, 0, none⟩)))] [.seg H] =
(.claim (opA (Plain.env [] (gE 0)) (.load (.const (.pointer (some ⟨p, 0, none⟩))) none) [] H = some ((.slice s n c), H))
 (.claim (Wp (Plain.env [] (gE 0)) (inL [2, 3]) (.block 0 (.loop body47_0)) (denF [.seg H] (frS 22 [(2, (sI 0)), (3, (sI 0)), (9, (rS s n c)), (10, (sI (n : Int))), (11, (sI 0))])) (denH [.seg H]) fun e_ s_ h_ => e_ = .normal ∧ s_ = denF [.seg H, .seg X] (frS 22 [(2, (sI 0)), (3, (sI r))]) ∧ h_ = denH [.seg H, .seg X])
 (.ret .ret [(sI r)] [.seg H, .seg X]))) := by kernel_rfl
def il48 : FnIL := ⟨21, [.tmp 2], .seq (.reg [ oT 2 (.mov (kI 0))]) (.seq (.reg [ oT 3 (.mov (kI 0))]) (.seq (.seq (.reg [ oT 6 (.mov (.tmp 0)), oT 7 (.nilck (.tmp 6)), oT 8 (.fadr 0 (.tmp 7)), oT 9 (.load (.tmp 8) none), oT 10 (.len (.tmp 9)), oT 11 (.mov (kI 0))]) (.block 0 (.loop (.seq (.reg [ oT 12 (.bin .lss (.tmp 11) (.tmp 10))]) (.seq (.ite (.tmp 12) (.skip) (.exit 0)) (.seq (.block 1 (.seq (.reg [ oT 13 (.iadr 5 none (.tmp 9) (.tmp 11)), oT 14 (.load (.tmp 13) (some 5)), oT 5 (.alloc [(.int .i64 0), (.int .i64 0), (.int .i64 0), (.int .i64 0), (.bool false)]), oN (.store (.tmp 5) (.tmp 14) 5)]) (.reg [ oT 15 (.mov (.tmp 3)), oT 16 (.fadr 2 (.tmp 5)), oT 17 (.load (.tmp 16) none), oT 18 (.bin .add (.tmp 15) (.tmp 17)), oT 3 (.mov (.tmp 18))]))) (.reg [ oT 19 (.bin .add (.tmp 11) (kI 1)), oT 11 (.mov (.tmp 19))]))))))) (.seq (.reg [ oT 20 (.mov (.tmp 3)), oT 2 (.mov (.tmp 20))]) (.ret))))⟩
theorem st48 : stF Try.prog qt 48 = some il48 := by kernel_rfl
def body48_0 : IL := .seq (.reg [ oT 12 (.bin .lss (.tmp 11) (.tmp 10))]) (.seq (.ite (.tmp 12) (.skip) (.exit 0)) (.seq (.block 1 (.seq (.reg [ oT 13 (.iadr 5 none (.tmp 9) (.tmp 11)), oT 14 (.load (.tmp 13) (some 5)), oT 5 (.alloc [(.int .i64 0), (.int .i64 0), (.int .i64 0), (.int .i64 0), (.bool false)]), oN (.store (.tmp 5) (.tmp 14) 5)]) (.reg [ oT 15 (.mov (.tmp 3)), oT 16 (.fadr 2 (.tmp 5)), oT 17 (.load (.tmp 16) none), oT 18 (.bin .add (.tmp 15) (.tmp 17)), oT 3 (.mov (.tmp 18))]))) (.reg [ oT 19 (.bin .add (.tmp 11) (kI 1)), oT 11 (.mov (.tmp 19))])))
def hn48t (s : Option Addr) (n c : Nat) (t i x0 x1 x2 x3 : Int) (xb : Bool) (b1 o1 : Nat) (H J : Heap) : Hs := (.sym (.pur 22000013 (.pointer (some ⟨b1, o1, none⟩)) (.bas 7000014 (.agg ⟨[(.int .i64 x0), (.int .i64 x1), (.int .i64 x2), (.int .i64 x3), (.bool xb)]⟩) .nil)) .nil)
theorem tree48t (s : Option Addr) (n c : Nat) (t i x0 x1 x2 x3 : Int) (xb : Bool) (b1 o1 : Nat) (H J : Heap) : pieceS [] (gE 0) (cE 0) 100 (fun i => exL i body48_0 || inL [2, 3] i) body48_0 (hn48t s n c t i x0 x1 x2 x3 xb b1 o1 H J) (frS 21 [(2, (sI 0)), (3, (sI t)), (9, (rS s n c)), (10, (sI (n : Int))), (11, (sI i))]) [.seg H, .seg J] =
(.br (decide (i < (n : Int)))
 (.claim (opA (Plain.env [] (gE 0)) (.iadr 5 none (.const (.slice s n c)) (kI i)) [] [] = some ((.pointer (some ⟨b1, o1, none⟩)), []))
 (.claim (opA (Plain.env [] (gE 0)) (.load (.const (.pointer (some ⟨b1, o1, none⟩))) (some 5)) [] H = some ((.agg ⟨[(.int .i64 x0), (.int .i64 x1), (.int .i64 x2), (.int .i64 x3), (.bool xb)]⟩), H))
 (.ret .normal (frS 21 [(2, (sI 0)), (3, (sI (IntKind.wrap .i64 (t + x2)))), (9, (rS s n c)), (10, (sI (n : Int))), (11, (sI (IntKind.wrap .i64 (i + 1))))]) [.seg H, .seg J, .blk .fix [(sI x0), (sI x1), (sI x2), (sI x3), (sB xb)]])))
 (.ret (.exit 0) (frS 21 [(2, (sI 0)), (3, (sI t)), (9, (rS s n c)), (10, (sI (n : Int))), (11, (sI i))]) [.seg H, .seg J])) := by kernel_rfl
def hn48w (p : Nat) (s : Option Addr) (n c : Nat) (r : Int) (H X : Heap) : Hs := (.bas 7000009 (.slice s n c) (.lp 0 [2, 3] (frS 21 [(2, (sI 0)), (3, (sI r))]) ⟨[], [.seg X]⟩ .nil))
theorem tree48w (p : Nat) (s : Option Addr) (n c : Nat) (r : Int) (H X : Heap) : fnS [] (gE 0) (cE 0) 100 il48 (hn48w p s n c r H X) [(.raw (.pointer (some ⟨p, 0, none⟩)))] [.seg H] =
(.claim (opA (Plain.env [] (gE 0)) (.load (.const (.pointer (some ⟨p, 0, none⟩))) none) [] H = some ((.slice s n c), H))
 (.claim (Wp (Plain.env [] (gE 0)) (inL [2, 3]) (.block 0 (.loop body48_0)) (denF [.seg H] (frS 21 [(2, (sI 0)), (3, (sI 0)), (9, (rS s n c)), (10, (sI (n : Int))), (11, (sI 0))])) (denH [.seg H]) fun e_ s_ h_ => e_ = .normal ∧ s_ = denF [.seg H, .seg X] (frS 21 [(2, (sI 0)), (3, (sI r))]) ∧ h_ = denH [.seg H, .seg X])
 (.ret .ret [(sI r)] [.seg H, .seg X]))) := by kernel_rfl
theorem loop47 {H : Heap} {s : Option Addr} {c : Nat} {l : List L5} (hs : RowsW 5 H (.slice s l.length c) (l.map e5)) (hn : l.length ≤ 1099511627776) :
  Wp (Plain.env [] (gE 0)) (inL [2, 3]) (.block 0 (.loop body47_0)) (denF [.seg H] (frS 22 [(2, (sI 0)), (3, (sI 0)), (9, (rS s l.length c)), (10, (sI (l.length : Int))), (11, (sI 0))])) (denH [.seg H]) fun e t h => ∃ X, e = .normal ∧ t = denF [.seg H, .seg X] (frS 22 [(2, (sI 0)), (3, (sI (sumF L5.b 0 l)))]) ∧ h = denH [.seg H, .seg X] := by
 refine Wp.bl (fun m t h => ∃ (i : Nat) (n : Int) (J : Heap), i + m = l.length ∧ t = denF [.seg H, .seg J] (frS 22 [(2, (sI 0)), (3, (sI n)), (9, (rS s l.length c)), (10, (sI (l.length : Int))), (11, (sI i))]) ∧ h = denH [.seg H, .seg J] ∧ sumF L5.b 0 l = sumF L5.b n (l.drop i)) ?_ l.length _ _ ⟨0, 0, [], by omega, by show denF _ _ = denF _ _; kernel_rfl, by simp [denH, denL, It.den], rfl⟩
 rintro m t h ⟨i, n, J, hi, rfl, rfl, hr⟩
 by_cases hlt : i < l.length
 ·obtain ⟨x, hx⟩ := getE hlt
  obtain ⟨b1, o1, r1⟩ := hs.rowM hx
  have hd : l.drop i = x :: l.drop (i + 1) := by
   rw [List.drop_eq_getElem_cons hlt]
   rw [List.getElem?_eq_getElem hlt] at hx
   cases hx; rfl
  rw [hd] at hr
  refine Wp.tree (cE_ok 0) (tree47t s l.length c n i x.a x.b x.c x.d x.e b1 o1 H J) ⟨rfl, rfl⟩ ⟨fun _ => ⟨r1.ptr _ _, r1.all _, end_next (m - 1) (by omega) ⟨i + 1, wr (n + x.b), J ++ [some ⟨.fix, e5 x⟩], by omega, ?_, ?_, hr⟩⟩, fun q => by simp at q; omega⟩
  ·rw [wrap64 (x := (i : Int) + 1) (by omega) (by omega)]; show denF _ _ = denF _ _; kernel_rfl
  ·simp [denH, denL, It.den, den0, e5]
 ·have hil : i = l.length := by omega
  refine Wp.tree (cE_ok 0) (tree47t s l.length c n i 0 0 0 0 false 0 0 H J) ⟨rfl, rfl⟩ ⟨fun q => by simp at q; omega, fun _ => end_exit ⟨J, rfl, ?_, rfl⟩⟩
  rw [hr, hil, List.drop_length]
  show denF _ _ = denF _ _; kernel_rfl
theorem sim47 {H : Heap} {p : Nat} {s : Value} {l : List L5} (hp : rd H p = some ⟨.fix, [s]⟩) (hs : RowsW 5 H s (l.map e5)) (hn : l.length ≤ 1099511627776) : Sim Try.prog 47 [.pointer (some ⟨p, 0, none⟩)] H fun v h' => v = .int .i64 (sumF L5.b 0 l) ∧ h' = H := by
 refine (Sim.plain (R := fun v => v = .int .i64 (sumF L5.b 0 l)) ?_ (fun v hv => by subst hv; rfl)).mono fun v h' q => q
 obtain ⟨sa, sc, rfl⟩ := hs.slcM
 obtain ⟨e, t1, h1, ⟨X, rfl, rfl, rfl⟩, w⟩ := (loop47 hs hn).exact
 have := fnS_tree (Q := fun v h' => v = .int .i64 (sumF L5.b 0 l) ∧ ∃ X, h' = H ++ X) mixed (gE_ok 0) (gE_q 0) (cE_ok 0) st47 (tree47w p sa l.length sc (sumF L5.b 0 l) H X) ⟨rfl, rfl⟩ ⟨ld1 hp rfl, w, rfl, X, by simp [denH, denL, It.den]⟩
 simpa [denH, denL, It.den, denF, denV, denA, den0] using this
noncomputable abbrev g47 := smry preP fun l h => (.int .i64 (sumF L5.b 0 l), h)
theorem summ47 : Summ Try.prog 47 g47 := smry_ok fun y args h ⟨p, s, e, hp, hs, hn⟩ => by subst e; exact sim47 hp hs hn
theorem loop48 {H : Heap} {s : Option Addr} {c : Nat} {l : List L5} (hs : RowsW 5 H (.slice s l.length c) (l.map e5)) (hn : l.length ≤ 1099511627776) :
  Wp (Plain.env [] (gE 0)) (inL [2, 3]) (.block 0 (.loop body48_0)) (denF [.seg H] (frS 21 [(2, (sI 0)), (3, (sI 0)), (9, (rS s l.length c)), (10, (sI (l.length : Int))), (11, (sI 0))])) (denH [.seg H]) fun e t h => ∃ X, e = .normal ∧ t = denF [.seg H, .seg X] (frS 21 [(2, (sI 0)), (3, (sI (sumF L5.c 0 l)))]) ∧ h = denH [.seg H, .seg X] := by
 refine Wp.bl (fun m t h => ∃ (i : Nat) (n : Int) (J : Heap), i + m = l.length ∧ t = denF [.seg H, .seg J] (frS 21 [(2, (sI 0)), (3, (sI n)), (9, (rS s l.length c)), (10, (sI (l.length : Int))), (11, (sI i))]) ∧ h = denH [.seg H, .seg J] ∧ sumF L5.c 0 l = sumF L5.c n (l.drop i)) ?_ l.length _ _ ⟨0, 0, [], by omega, by show denF _ _ = denF _ _; kernel_rfl, by simp [denH, denL, It.den], rfl⟩
 rintro m t h ⟨i, n, J, hi, rfl, rfl, hr⟩
 by_cases hlt : i < l.length
 ·obtain ⟨x, hx⟩ := getE hlt
  obtain ⟨b1, o1, r1⟩ := hs.rowM hx
  have hd : l.drop i = x :: l.drop (i + 1) := by
   rw [List.drop_eq_getElem_cons hlt]
   rw [List.getElem?_eq_getElem hlt] at hx
   cases hx; rfl
  rw [hd] at hr
  refine Wp.tree (cE_ok 0) (tree48t s l.length c n i x.a x.b x.c x.d x.e b1 o1 H J) ⟨rfl, rfl⟩ ⟨fun _ => ⟨r1.ptr _ _, r1.all _, end_next (m - 1) (by omega) ⟨i + 1, wr (n + x.c), J ++ [some ⟨.fix, e5 x⟩], by omega, ?_, ?_, hr⟩⟩, fun q => by simp at q; omega⟩
  ·rw [wrap64 (x := (i : Int) + 1) (by omega) (by omega)]; show denF _ _ = denF _ _; kernel_rfl
  ·simp [denH, denL, It.den, den0, e5]
 ·have hil : i = l.length := by omega
  refine Wp.tree (cE_ok 0) (tree48t s l.length c n i 0 0 0 0 false 0 0 H J) ⟨rfl, rfl⟩ ⟨fun q => by simp at q; omega, fun _ => end_exit ⟨J, rfl, ?_, rfl⟩⟩
  rw [hr, hil, List.drop_length]
  show denF _ _ = denF _ _; kernel_rfl
theorem sim48 {H : Heap} {p : Nat} {s : Value} {l : List L5} (hp : rd H p = some ⟨.fix, [s]⟩) (hs : RowsW 5 H s (l.map e5)) (hn : l.length ≤ 1099511627776) : Sim Try.prog 48 [.pointer (some ⟨p, 0, none⟩)] H fun v h' => v = .int .i64 (sumF L5.c 0 l) ∧ h' = H := by
 refine (Sim.plain (R := fun v => v = .int .i64 (sumF L5.c 0 l)) ?_ (fun v hv => by subst hv; rfl)).mono fun v h' q => q
 obtain ⟨sa, sc, rfl⟩ := hs.slcM
 obtain ⟨e, t1, h1, ⟨X, rfl, rfl, rfl⟩, w⟩ := (loop48 hs hn).exact
 have := fnS_tree (Q := fun v h' => v = .int .i64 (sumF L5.c 0 l) ∧ ∃ X, h' = H ++ X) mixed (gE_ok 0) (gE_q 0) (cE_ok 0) st48 (tree48w p sa l.length sc (sumF L5.c 0 l) H X) ⟨rfl, rfl⟩ ⟨ld1 hp rfl, w, rfl, X, by simp [denH, denL, It.den]⟩
 simpa [denH, denL, It.den, denF, denV, denA, den0] using this
noncomputable abbrev g48 := smry preP fun l h => (.int .i64 (sumF L5.c 0 l), h)
theorem summ48 : Summ Try.prog 48 g48 := smry_ok fun y args h ⟨p, s, e, hp, hs, hn⟩ => by subst e; exact sim48 hp hs hn
end B
def findF (id : Int) (l : List L5) : L5 × Bool := match atI id l with
 | some i => match l[i]? with
  | some x => (x, true)
  | none => (⟨0, 0, 0, 0, false⟩, false)
 | none => (⟨0, 0, 0, 0, false⟩, false)
theorem atI_lt {id : Int} : ∀ {l : List L5} {i : Nat}, atI id l = some i → ∃ x, l[i]? = some x ∧ x.a = id
 | [], i, h => by simp [atI] at h
 | x :: r, i, h => by
  unfold atI at h
  split at h
  ·rename_i hx
   cases h
   exact ⟨x, rfl, by simpa using hx⟩
  ·cases hr : atI id r with
   | none => rw [hr] at h; cases h
   | some j =>
    rw [hr] at h
    cases h
    obtain ⟨y, hy, hi⟩ := atI_lt hr
    exact ⟨y, by simpa using hy, hi⟩
namespace F
def tupF (y : L5 × Bool) : Value := .tuple ⟨[.agg ⟨e5 y.1⟩, .bool y.2]⟩
def pre (y : List L5 × Int) (args : List Value) (h : Heap) : Prop := ∃ p s, args = [.pointer (some ⟨p, 0, none⟩), .int .i64 y.2] ∧ rd h p = some ⟨.fix, [s]⟩ ∧ RowsW 5 h s (y.1.map e5) ∧ y.1.length ≤ 1099511627776
def res (y : List L5 × Int) (h : Heap) : Value × Heap := (tupF (findF y.2 y.1), h)
end F
def newL (x : R2) : L5 := ⟨x.a, x.b, 0, 0, false⟩
namespace N
open WB (gE cE gE_ok gE_q cE_ok)
def il45 : FnIL := ⟨27, [.tmp 2], .seq (.reg [ oT 2 (.mov (.const (.pointer none)))]) (.seq (.reg [ oT 6 (.build [(.slice none 0 0)] []), oT 7 (.box (.tmp 6)), oT 3 (.mov (.tmp 7))]) (.seq (.seq (.reg [ oT 8 (.mov (.tmp 0)), oT 9 (.len (.tmp 8)), oT 10 (.mov (kI 0))]) (.block 0 (.loop (.seq (.reg [ oT 11 (.bin .lss (.tmp 10) (.tmp 9))]) (.seq (.ite (.tmp 11) (.skip) (.exit 0)) (.seq (.block 1 (.seq (.reg [ oT 12 (.iadr 2 none (.tmp 8) (.tmp 10)), oT 13 (.load (.tmp 12) (some 2)), oT 5 (.alloc [(.int .i64 0), (.int .i64 0)]), oN (.store (.tmp 5) (.tmp 13) 2)]) (.dreg [ oT 14 (.mov (.tmp 3)), oT 15 (.mov (.tmp 3)), oT 16 (.nilck (.tmp 15)), oT 17 (.fadr 0 (.tmp 16)), oT 18 (.load (.tmp 17) none), oT 19 (.load (.tmp 5) (some 2)), oT 20 (.build [(.int .i64 0), (.int .i64 0), (.int .i64 0), (.int .i64 0), (.bool false)] [(0, 2, (.tmp 19))]), oT 21 (.mkrow [(.int .i64 0), (.int .i64 0), (.int .i64 0), (.int .i64 0), (.bool false)] 1 [(0, 5, (.tmp 20))]), oT 22 (.append 5 40 (.tmp 18) (.tmp 21)), oT 23 (.nilck (.tmp 14)), oT 24 (.fadr 0 (.tmp 23)), oN (.store (.tmp 24) (.tmp 22) 1)] []))) (.reg [ oT 25 (.bin .add (.tmp 10) (kI 1)), oT 10 (.mov (.tmp 25))]))))))) (.seq (.reg [ oT 26 (.mov (.tmp 3)), oT 2 (.mov (.tmp 26))]) (.ret))))⟩
theorem st45 : stF Try.prog qt 45 = some il45 := by kernel_rfl
def body45_0 : IL := .seq (.reg [ oT 11 (.bin .lss (.tmp 10) (.tmp 9))]) (.seq (.ite (.tmp 11) (.skip) (.exit 0)) (.seq (.block 1 (.seq (.reg [ oT 12 (.iadr 2 none (.tmp 8) (.tmp 10)), oT 13 (.load (.tmp 12) (some 2)), oT 5 (.alloc [(.int .i64 0), (.int .i64 0)]), oN (.store (.tmp 5) (.tmp 13) 2)]) (.dreg [ oT 14 (.mov (.tmp 3)), oT 15 (.mov (.tmp 3)), oT 16 (.nilck (.tmp 15)), oT 17 (.fadr 0 (.tmp 16)), oT 18 (.load (.tmp 17) none), oT 19 (.load (.tmp 5) (some 2)), oT 20 (.build [(.int .i64 0), (.int .i64 0), (.int .i64 0), (.int .i64 0), (.bool false)] [(0, 2, (.tmp 19))]), oT 21 (.mkrow [(.int .i64 0), (.int .i64 0), (.int .i64 0), (.int .i64 0), (.bool false)] 1 [(0, 5, (.tmp 20))]), oT 22 (.append 5 40 (.tmp 18) (.tmp 21)), oT 23 (.nilck (.tmp 14)), oT 24 (.fadr 0 (.tmp 23)), oN (.store (.tmp 24) (.tmp 22) 1)] []))) (.reg [ oT 25 (.bin .add (.tmp 10) (kI 1)), oT 10 (.mov (.tmp 25))])))
def hn45t (aa al a2 : Option Addr) (na ca nl cl n2 c2 : Nat) (i x0 x1 : Int) (b1 o1 : Nat) (H J J2 X : Heap) : Hs := (.sym (.pur 22000012 (.pointer (some ⟨b1, o1, none⟩)) (.bas 7000013 (.agg ⟨[(.int .i64 x0), (.int .i64 x1)]⟩) (.use 30000022 (rS a2 n2 c2) ⟨[(2, .seg J2)], [.seg X]⟩ .nil))) .nil)
theorem tree45t (aa al a2 : Option Addr) (na ca nl cl n2 c2 : Nat) (i x0 x1 : Int) (b1 o1 : Nat) (H J J2 X : Heap) : pieceS [] (gE 0) (cE 0) 100 (fun i => exL i body45_0 || inL [2, 3] i) body45_0 (hn45t aa al a2 na ca nl cl n2 c2 i x0 x1 b1 o1 H J J2 X) (frS 27 [(2, (.raw (.pointer none))), (3, (.ptr 1 0)), (8, (rS aa na ca)), (9, (sI (na : Int))), (10, (sI i))]) [.seg H, .blk .fix [(rS al nl cl)], .seg J] =
(.br (decide (i < (na : Int)))
 (.claim (opA (Plain.env [] (gE 0)) (.iadr 2 none (.const (.slice aa na ca)) (kI i)) [] [] = some ((.pointer (some ⟨b1, o1, none⟩)), []))
 (.claim (opA (Plain.env [] (gE 0)) (.load (.const (.pointer (some ⟨b1, o1, none⟩))) (some 2)) [] H = some ((.agg ⟨[(.int .i64 x0), (.int .i64 x1)]⟩), H))
 (.req true (.claim (List.length J2 = List.length J) (.claim (opA (Plain.env [] (gE 0)) (.append 5 40 (.const (.slice al nl cl)) (.const (denV (ofs [.seg H, .blk .fix [(rS al nl cl)], .seg J, .blk .fix [(sI x0), (sI x1)], .blk .fix [(sI x0), (sI x1), (sI 0), (sI 0), (sB false)]]) (.sl 4 0 1 1)))) [] (denH [.seg H, .blk .fix [(rS al nl cl)], .seg J, .blk .fix [(sI x0), (sI x1)], .blk .fix [(sI x0), (sI x1), (sI 0), (sI 0), (sB false)]]) = some ((.slice a2 n2 c2), denH [.seg H, .blk .fix [(rS al nl cl)], .seg J2, .blk .fix [(sI x0), (sI x1)], .blk .fix [(sI x0), (sI x1), (sI 0), (sI 0), (sB false)], .seg X]))
 (.ret .normal (frS 27 [(2, (.raw (.pointer none))), (3, (.ptr 1 0)), (8, (rS aa na ca)), (9, (sI (na : Int))), (10, (sI (IntKind.wrap .i64 (i + 1))))]) [.seg H, .blk .fix [(rS a2 n2 c2)], .seg J2, .blk .fix [(sI x0), (sI x1)], .blk .fix [(sI x0), (sI x1), (sI 0), (sI 0), (sB false)], .seg X]))))))
 (.ret (.exit 0) (frS 27 [(2, (.raw (.pointer none))), (3, (.ptr 1 0)), (8, (rS aa na ca)), (9, (sI (na : Int))), (10, (sI i))]) [.seg H, .blk .fix [(rS al nl cl)], .seg J])) := by kernel_rfl
def hn45w (aa al : Option Addr) (na ca nl cl : Nat) (H X : Heap) : Hs := (.lp 0 [2, 3] (frS 27 [(2, (.raw (.pointer none))), (3, (.ptr 1 0))]) ⟨[(1, .blk .fix [(rS al nl cl)])], [.seg X]⟩ .nil)
theorem tree45w (aa al : Option Addr) (na ca nl cl : Nat) (H X : Heap) : fnS [] (gE 0) (cE 0) 100 il45 (hn45w aa al na ca nl cl H X) [(rS aa na ca)] [.seg H] =
(.claim (Wp (Plain.env [] (gE 0)) (inL [2, 3]) (.block 0 (.loop body45_0)) (denF [.seg H, .blk .fix [nS]] (frS 27 [(2, (.raw (.pointer none))), (3, (.ptr 1 0)), (8, (rS aa na ca)), (9, (sI (na : Int))), (10, (sI 0))])) (denH [.seg H, .blk .fix [nS]]) fun e_ s_ h_ => e_ = .normal ∧ s_ = denF [.seg H, .blk .fix [(rS al nl cl)], .seg X] (frS 27 [(2, (.raw (.pointer none))), (3, (.ptr 1 0))]) ∧ h_ = denH [.seg H, .blk .fix [(rS al nl cl)], .seg X])
 (.ret .ret [(.ptr 1 0)] [.seg H, .blk .fix [(rS al nl cl)], .seg X])) := by kernel_rfl
theorem loop {H : Heap} {aa : Option Addr} {ca : Nat} {l : List R2} (ha : RowsW 2 H (.slice aa l.length ca) (l.map e2)) (hn : l.length ≤ 1000000) :
  Wp (Plain.env [] (gE 0)) (inL [2, 3]) (.block 0 (.loop body45_0)) (denF [.seg H, .blk .fix [nS]] (frS 27 [(2, (.raw (.pointer none))), (3, (.ptr 1 0)), (8, (rS aa l.length ca)), (9, (sI (l.length : Int))), (10, (sI 0))])) (denH [.seg H, .blk .fix [nS]]) fun e t h => ∃ (al : Option Addr) (cl : Nat) (X : Heap), (e = .normal ∧ t = denF [.seg H, .blk .fix [(rS al l.length cl)], .seg X] (frS 27 [(2, (.raw (.pointer none))), (3, (.ptr 1 0))]) ∧ h = denH [.seg H, .blk .fix [(rS al l.length cl)], .seg X]) ∧ LsS 5 (denH [.seg H, pB (.slice none 0 0)]) X (.slice al l.length cl) ((l.map newL).map e5) := by
 refine Wp.bl (fun m t h => ∃ (i : Nat) (J : Heap) (al : Option Addr) (cl : Nat), i + m = l.length ∧ t = denF [.seg H, .blk .fix [(rS al i cl)], .seg J] (frS 27 [(2, (.raw (.pointer none))), (3, (.ptr 1 0)), (8, (rS aa l.length ca)), (9, (sI (l.length : Int))), (10, (sI i))]) ∧ h = denH [.seg H, .blk .fix [(rS al i cl)], .seg J] ∧ LsS 5 (denH [.seg H, pB (.slice none 0 0)]) J (.slice al i cl) (((l.take i).map newL).map e5)) ?_ l.length _ _
  ⟨0, [], none, 0, by omega, by show denF _ _ = denF _ _; kernel_rfl, by simp [denH, denL, It.den, den0], .inl ⟨rfl, rfl⟩⟩
 rintro m t h ⟨i, J, al, cl, hi, rfl, rfl, hl⟩
 have eb : (denH [.seg H, pB (.slice none 0 0)]).length = (denH [.seg H, pB (.slice al i cl)]).length := by simp [denH, denL, It.den]
 by_cases hlt : i < l.length
 ·obtain ⟨x, hx⟩ := getE hlt
  obtain ⟨b1, o1, r1⟩ := ha.rowM hx
  have hlen : (((l.take i).map newL).map e5).length = i := by simp; omega
  obtain ⟨a2, c2, J2, X, q1, q2, q3⟩ := appRow (I := [.seg H, pB (.slice al i cl)]) (R := [.blk .fix [(sI x.a), (sI x.b)]]) (R0 := [some ⟨.fix, [.int .i64 x.a, .int .i64 x.b]⟩]) rfl (fun f => rfl) (w := 5) (eby := 40) (hl.base eb) (row := e5 (newL x)) (cs := [(sI x.a), (sI x.b), (sI 0), (sI 0), (sB false)]) (fun f => rfl) rfl (by decide) (by rw [hlen]; omega) (by rw [hlen]; omega)
  rw [hlen] at q2 q3
  refine Wp.tree (cE_ok 0) (tree45t aa al a2 l.length ca i cl (i + 1) c2 i x.a x.b b1 o1 H J J2 X) ⟨rfl, rfl⟩ ⟨fun _ => ⟨r1.ptr _ _, r1.all _, rfl, q1, q2 _, end_next (m - 1) (by omega) ⟨i + 1, J2 ++ ([some ⟨.fix, [.int .i64 x.a, .int .i64 x.b]⟩] ++ (some ⟨.fix, e5 (newL x)⟩ :: X)), a2, c2, by omega, ?_, ?_, ?_⟩⟩, fun q => by simp at q; omega⟩
  ·rw [wrap64 (by omega) (by omega)]; show denF _ _ = denF _ _; kernel_rfl
  ·simp [denH, denL, It.den, den0, e5, newL]
  ·rw [WB.take_one hx, List.map_append, List.map_append]
   exact q3.base (by simp [denH, denL, It.den])
 ·have hil : i = l.length := by omega
  subst hil
  refine Wp.tree (cE_ok 0) (tree45t aa al al l.length ca l.length cl 0 0 l.length 0 0 0 0 H J J J) ⟨rfl, rfl⟩ ⟨fun q => by simp at q, fun _ => end_exit ⟨al, cl, J, ⟨rfl, by show denF _ _ = denF _ _; kernel_rfl, rfl⟩, ?_⟩⟩
  rw [List.take_length] at hl
  exact hl
theorem sum45 : Summ Try.prog 45 (runE (Plain.env [] (gE 0)) il45) := Summ.runE mixed (gE_ok 0) (gE_q 0) st45
theorem use45 {I : SH} (hI : I.all (It.bnd I.length) = true) {v : Value} {l : List R2} (ha : RowsW 2 (denH I) v (l.map e2)) (hn : l.length ≤ 1000000) :
  ∃ (al : Option Addr) (cl : Nat) (X : Heap), LsS 5 (denH (I ++ [pB (.slice al l.length cl)])) X (.slice al l.length cl) ((l.map newL).map e5) ∧
   runE (Plain.env [] (gE 0)) il45 [v] (denH I) = some (denV (ofs (I ++ [pB (.slice al l.length cl), .seg X])) (.ptr I.length 0), denH (I ++ [pB (.slice al l.length cl), .seg X])) := by
 obtain ⟨aa, ca, rfl⟩ := ha.slcM
 obtain ⟨e, t1, h1, ⟨al, cl, X, ⟨rfl, rfl, rfl⟩, hl⟩, w⟩ := (loop ha hn).exact
 refine ⟨al, cl, X, hl.base ?_, ?_⟩
 ·rw [denH_app hI]; simp [denH, denL, It.den]
 obtain ⟨v, h', r, rfl, rfl⟩ := fnS_run (Q := fun v h' => v = .pointer (some ⟨(denH I).length, 0, none⟩) ∧ h' = denH I ++ some ⟨.fix, [.slice al l.length cl]⟩ :: X) (cE_ok 0) (tree45w aa al l.length ca l.length cl (denH I) X) ⟨rfl, rfl⟩ ⟨w, by simp [denV, denA, den0, ofs, It.len], by simp [denH, denL, It.den, den0]⟩
 have e1 : denV (ofs (I ++ [pB (.slice al l.length cl), .seg X])) (.ptr I.length 0) = .pointer (some ⟨(denH I).length, 0, none⟩) := by
  simp only [denV, denA, den0, off_app _ _ _ (Nat.le_refl _), denH_len]
 have e2 : denH (I ++ [pB (.slice al l.length cl), .seg X]) = denH I ++ some ⟨.fix, [.slice al l.length cl]⟩ :: X := by
  rw [denH_app hI]; simp [denL, It.den, den0]
 rw [e1, e2]
 simpa [denF, denH, denL, It.den, denV, denA, den0] using r
end N
namespace Y
def il89 : FnIL := ⟨8, [.tmp 2], .seq (.reg [ oT 2 (.mov (.const (.slice none 0 0)))]) (.seq (.seq (.reg [ oT 3 (.mov (.tmp 0)), oT 4 (.eqv false .slc (.tmp 3) (.const (.slice none 0 0)))]) (.ite (.tmp 4) (.seq (.reg [ oT 2 (.mov (.const (.slice none 0 0)))]) (.ret)) (.skip))) (.seq (.reg [ oT 5 (.mkrow [] 0 []), oT 6 (.mov (.tmp 0)), oT 7 (.append 5 40 (.tmp 5) (.tmp 6)), oT 2 (.mov (.tmp 7))]) (.ret)))⟩
theorem st89 : stF Try.prog qt 89 = some il89 := by kernel_rfl
def il59 : FnIL := ⟨10, [.tmp 2], .seq (.reg [ oT 2 (.mov (.const (.pointer none)))]) (.seq (.reg [ oT 3 (.mov (.tmp 0)), oT 4 (.nilck (.tmp 3)), oT 5 (.fadr 0 (.tmp 4)), oT 6 (.load (.tmp 5) none), oT 7 (.call 89 [(.tmp 6)]), oT 8 (.build [(.slice none 0 0)] [(0, 1, (.tmp 7))]), oT 9 (.box (.tmp 8)), oT 2 (.mov (.tmp 9))]) (.ret))⟩
theorem st59 : stF Try.prog qt 59 = some il59 := by kernel_rfl
def il58 : FnIL := ⟨8, [.tmp 2], .seq (.reg [ oT 2 (.mov (.const (.slice none 0 0)))]) (.seq (.reg [ oT 3 (.mov (.tmp 0)), oT 4 (.nilck (.tmp 3)), oT 5 (.fadr 0 (.tmp 4)), oT 6 (.load (.tmp 5) none), oT 7 (.call 89 [(.tmp 6)]), oT 2 (.mov (.tmp 7))]) (.ret))⟩
theorem st58 : stF Try.prog qt 58 = some il58 := by kernel_rfl
abbrev inl : Tab := [(89, il89)]
theorem inl_ok : TabOk Try.prog qt inl := .cons st89 .nil
noncomputable abbrev gE (k : Nat) : Env := inE [] inl k noEnv
noncomputable abbrev cE (k : Nat) : CallS := callS [] inl noEnv 100 k
theorem noq : noQt qt inl := fun f F h => rfl
theorem gE_q (k : Nat) : QuietEnv qt (Plain.env [] (gE k)) := Plain.quiet (inE_quiet noEnv_quiet noq k)
theorem gE_ok (k : Nat) : EnvOk Try.prog (Plain.env [] (gE k)) := Plain.ok .nil (inE_ok (qt := qt) mixed .nil inl_ok noq noEnv_ok noEnv_quiet k)
theorem cE_ok (k : Nat) : CallOk (Plain.env [] (gE k)) (cE k) := callS_ok k
def hn59n (p : Nat) (H : Heap) : Hs := (.bas 7000006 (.slice none 0 0) (.pur 11000004 (.bool true) (.con .nil)))
theorem tree59n (p : Nat) (H : Heap) : fnS [] (gE 1) (cE 1) 100 il59 (hn59n p H) [(.raw (.pointer (some ⟨p, 0, none⟩)))] [.seg H] =
(.claim (opA (Plain.env [] (gE 1)) (.load (.const (.pointer (some ⟨p, 0, none⟩))) none) [] H = some ((.slice none 0 0), H))
 (.claim (opA (Plain.env [] (gE 0)) (.eqv false .slc (.const (.slice none 0 0)) (.const (.slice none 0 0))) [] [] = some ((.bool true), []))
 (.ret .ret [(.ptr 1 0)] [.seg H, .blk .fix [nS]]))) := by kernel_rfl
def hn59s (p : Nat) (a : Addr) (a2 : Option Addr) (n c n2 c2 : Nat) (H X : Heap) : Hs := (.bas 7000006 (.slice (some a) n c) (.pur 11000004 (.bool false) (.con (.use 30000007 (rS a2 n2 c2) ⟨[], [.seg X]⟩ .nil))))
theorem tree59s (p : Nat) (a : Addr) (a2 : Option Addr) (n c n2 c2 : Nat) (H X : Heap) : fnS [] (gE 1) (cE 1) 100 il59 (hn59s p a a2 n c n2 c2 H X) [(.raw (.pointer (some ⟨p, 0, none⟩)))] [.seg H] =
(.claim (opA (Plain.env [] (gE 1)) (.load (.const (.pointer (some ⟨p, 0, none⟩))) none) [] H = some ((.slice (some a) n c), H))
 (.claim (opA (Plain.env [] (gE 0)) (.eqv false .slc (.const (.slice (some a) n c)) (.const (.slice none 0 0))) [] [] = some ((.bool false), []))
 (.claim (opA (Plain.env [] (gE 0)) (.append 5 40 (.const (denV (ofs [.seg H, .blk .fix []]) (.sl 1 0 0 0))) (.const (.slice (some a) n c))) [] (denH [.seg H, .blk .fix []]) = some ((.slice a2 n2 c2), denH [.seg H, .blk .fix [], .seg X]))
 (.ret .ret [(.ptr 3 0)] [.seg H, .blk .fix [], .seg X, .blk .fix [(rS a2 n2 c2)]])))) := by kernel_rfl
def hn58n (p : Nat) (H : Heap) : Hs := (.bas 7000006 (.slice none 0 0) (.pur 11000004 (.bool true) (.con .nil)))
theorem tree58n (p : Nat) (H : Heap) : fnS [] (gE 1) (cE 1) 100 il58 (hn58n p H) [(.raw (.pointer (some ⟨p, 0, none⟩)))] [.seg H] =
(.claim (opA (Plain.env [] (gE 1)) (.load (.const (.pointer (some ⟨p, 0, none⟩))) none) [] H = some ((.slice none 0 0), H))
 (.claim (opA (Plain.env [] (gE 0)) (.eqv false .slc (.const (.slice none 0 0)) (.const (.slice none 0 0))) [] [] = some ((.bool true), []))
 (.ret .ret [nS] [.seg H]))) := by kernel_rfl
def hn58s (p : Nat) (a : Addr) (a2 : Option Addr) (n c n2 c2 : Nat) (H X : Heap) : Hs := (.bas 7000006 (.slice (some a) n c) (.pur 11000004 (.bool false) (.con (.use 30000007 (rS a2 n2 c2) ⟨[], [.seg X]⟩ .nil))))
theorem tree58s (p : Nat) (a : Addr) (a2 : Option Addr) (n c n2 c2 : Nat) (H X : Heap) : fnS [] (gE 1) (cE 1) 100 il58 (hn58s p a a2 n c n2 c2 H X) [(.raw (.pointer (some ⟨p, 0, none⟩)))] [.seg H] =
(.claim (opA (Plain.env [] (gE 1)) (.load (.const (.pointer (some ⟨p, 0, none⟩))) none) [] H = some ((.slice (some a) n c), H))
 (.claim (opA (Plain.env [] (gE 0)) (.eqv false .slc (.const (.slice (some a) n c)) (.const (.slice none 0 0))) [] [] = some ((.bool false), []))
 (.claim (opA (Plain.env [] (gE 0)) (.append 5 40 (.const (denV (ofs [.seg H, .blk .fix []]) (.sl 1 0 0 0))) (.const (.slice (some a) n c))) [] (denH [.seg H, .blk .fix []]) = some ((.slice a2 n2 c2), denH [.seg H, .blk .fix [], .seg X]))
 (.ret .ret [(rS a2 n2 c2)] [.seg H, .blk .fix [], .seg X])))) := by kernel_rfl
theorem sum59 : Summ Try.prog 59 (runE (Plain.env [] (gE 1)) il59) := Summ.runE mixed (gE_ok 1) (gE_q 1) st59
theorem sum58 : Summ Try.prog 58 (runE (Plain.env [] (gE 1)) il58) := Summ.runE mixed (gE_ok 1) (gE_q 1) st58
theorem run59 {H : Heap} {p : Nat} {s : Value} {l : List L5} (hp : rd H p = some ⟨.fix, [s]⟩) (hs : RowsW 5 H s (l.map e5)) (hn : l.length ≤ 1000000) :
  ∃ a c X, LsS 5 H X (.slice a l.length c) (l.map e5) ∧ runE (Plain.env [] (gE 1)) il59 [.pointer (some ⟨p, 0, none⟩)] H = some (.pointer (some ⟨(H ++ X).length, 0, none⟩), H ++ (X ++ [some ⟨.fix, [.slice a l.length c]⟩])) ∧
   runE (Plain.env [] (gE 1)) il58 [.pointer (some ⟨p, 0, none⟩)] H = some (.slice a l.length c, H ++ X) := by
 obtain ⟨sa, c, rfl⟩ := hs.slcM
 cases sa with
 | none =>
  rcases hs with ⟨q, hl⟩ | ⟨_, _, _, _, q, _⟩
  ·simp only [Value.slice.injEq, true_and] at q
   have hl0 : l = [] := by simpa using hl
   subst hl0
   obtain ⟨_, rfl⟩ := q
   obtain ⟨w, h', rr, rfl, rfl⟩ := fnS_run (Q := fun w h' => w = .pointer (some ⟨H.length, 0, none⟩) ∧ h' = H ++ [some ⟨.fix, [.slice none 0 0]⟩]) (cE_ok 1) (tree59n p H) ⟨rfl, rfl⟩ ⟨ld1 hp rfl, rfl, by simp [denV, denA, den0, ofs, It.len], by simp [denH, denL, It.den, den0]⟩
   obtain ⟨w, h', r2, rfl, rfl⟩ := fnS_run (Q := fun w h' => w = .slice none 0 0 ∧ h' = H) (cE_ok 1) (tree58n p H) ⟨rfl, rfl⟩ ⟨ld1 hp rfl, rfl, by rfl, by simp [denH, denL, It.den, den0]⟩
   exact ⟨none, 0, [], .inl ⟨rfl, rfl⟩, by simpa [denF, denH, denL, It.den, denV, denA, den0, ofs, It.len, off] using rr, by simpa [denF, denH, denL, It.den, denV, denA, den0, ofs, It.len, off] using r2⟩
  ·cases q
 | some a =>
  have e0 : denH [.seg H] = H := by simp [denH, denL, It.den]
  obtain ⟨a2, c2, X, g2, l2⟩ := appNew (I := [.seg H]) rfl (w := 5) (eby := 40) (by rw [e0]; exact hs) (flen _ e5_w) (by decide) (by simp; omega) (by simp; omega)
  rw [List.length_map] at g2 l2
  rw [e0] at l2
  refine ⟨some a2, c2, some ⟨.fix, []⟩ :: X, l2, ?_, ?_⟩
  ·obtain ⟨w, h', rr, rfl, rfl⟩ := fnS_run (Q := fun w h' => w = .pointer (some ⟨(H ++ (some ⟨.fix, []⟩ :: X)).length, 0, none⟩) ∧ h' = H ++ (some ⟨.fix, []⟩ :: X ++ [some ⟨.fix, [.slice (some a2) l.length c2]⟩])) (cE_ok 1) (tree59s p a (some a2) l.length c l.length c2 H X) ⟨rfl, rfl⟩ ⟨ld1 hp rfl, eqv_nil ⟨_, _, _, rfl⟩ _, g2 _, by simp [denV, denA, den0, ofs, It.len], by simp [denH, denL, It.den, den0]⟩
   simpa [denF, denH, denL, It.den, denV, denA, den0, ofs, It.len, off] using rr
  ·obtain ⟨w, h', rr, rfl, rfl⟩ := fnS_run (Q := fun w h' => w = .slice (some a2) l.length c2 ∧ h' = H ++ (some ⟨.fix, []⟩ :: X)) (cE_ok 1) (tree58s p a (some a2) l.length c l.length c2 H X) ⟨rfl, rfl⟩ ⟨ld1 hp rfl, eqv_nil ⟨_, _, _, rfl⟩ _, g2 _, by rfl, by simp [denH, denL, It.den, den0]⟩
   simpa [denF, denH, denL, It.den, denV, denA, den0, ofs, It.len, off] using rr
end Y
end PO
end Go.Proofs.Ytgdojnamjkhknaa
