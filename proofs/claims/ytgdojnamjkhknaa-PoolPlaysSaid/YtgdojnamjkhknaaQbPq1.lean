/-
  ref: loans at their beginning; their balance; which tapes may be.
-/
import Derived.Test.YtgdojnamjkhknaaQbPo4
import Derived.Test.YtgdojnamjkhknaaQbPo6
namespace Go.Proofs.Ytgdojnamjkhknaa
open Go.Am
set_option linter.all false
set_option maxRecDepth 100000
namespace PR
open PO (L5 e5 newL sumF wr e5_1)
open TP.L91 (bif_t bif_f)
open WB (gE cE gE_ok gE_q cE_ok)
namespace G
def il50 : FnIL := ⟨22, [.tmp 2], .seq (.reg [ oT 2 (.mov (.const (.slice none 0 0)))]) (.seq (.reg [ oT 3 (.mov (.const (.slice none 0 0)))]) (.seq (.seq (.reg [ oT 6 (.mov (.tmp 0)), oT 7 (.len (.tmp 6)), oT 8 (.mov (kI 0))]) (.block 0 (.loop (.seq (.reg [ oT 9 (.bin .lss (.tmp 8) (.tmp 7))]) (.seq (.ite (.tmp 9) (.skip) (.exit 0)) (.seq (.block 1 (.seq (.reg [ oT 10 (.iadr 2 none (.tmp 6) (.tmp 8)), oT 11 (.load (.tmp 10) (some 2)), oT 5 (.alloc [(.int .i64 0), (.int .i64 0)]), oN (.store (.tmp 5) (.tmp 11) 2)]) (.reg [ oT 12 (.mov (.tmp 3)), oT 13 (.fadr 0 (.tmp 5)), oT 14 (.load (.tmp 13) none), oT 15 (.fadr 1 (.tmp 5)), oT 16 (.load (.tmp 15) none), oT 17 (.build [(.int .i64 0), (.int .i64 0), (.int .i64 0), (.int .i64 0), (.bool false)] [(0, 1, (.tmp 14)), (1, 1, (.tmp 16))]), oT 18 (.mkrow [(.int .i64 0), (.int .i64 0), (.int .i64 0), (.int .i64 0), (.bool false)] 1 [(0, 5, (.tmp 17))]), oT 19 (.append 5 40 (.tmp 12) (.tmp 18)), oT 3 (.mov (.tmp 19))]))) (.reg [ oT 20 (.bin .add (.tmp 8) (kI 1)), oT 8 (.mov (.tmp 20))]))))))) (.seq (.reg [ oT 21 (.mov (.tmp 3)), oT 2 (.mov (.tmp 21))]) (.ret))))⟩
theorem st50 : stF Try.prog qt 50 = some il50 := by kernel_rfl
def body50_0 : IL := .seq (.reg [ oT 9 (.bin .lss (.tmp 8) (.tmp 7))]) (.seq (.ite (.tmp 9) (.skip) (.exit 0)) (.seq (.block 1 (.seq (.reg [ oT 10 (.iadr 2 none (.tmp 6) (.tmp 8)), oT 11 (.load (.tmp 10) (some 2)), oT 5 (.alloc [(.int .i64 0), (.int .i64 0)]), oN (.store (.tmp 5) (.tmp 11) 2)]) (.reg [ oT 12 (.mov (.tmp 3)), oT 13 (.fadr 0 (.tmp 5)), oT 14 (.load (.tmp 13) none), oT 15 (.fadr 1 (.tmp 5)), oT 16 (.load (.tmp 15) none), oT 17 (.build [(.int .i64 0), (.int .i64 0), (.int .i64 0), (.int .i64 0), (.bool false)] [(0, 1, (.tmp 14)), (1, 1, (.tmp 16))]), oT 18 (.mkrow [(.int .i64 0), (.int .i64 0), (.int .i64 0), (.int .i64 0), (.bool false)] 1 [(0, 5, (.tmp 17))]), oT 19 (.append 5 40 (.tmp 12) (.tmp 18)), oT 3 (.mov (.tmp 19))]))) (.reg [ oT 20 (.bin .add (.tmp 8) (kI 1)), oT 8 (.mov (.tmp 20))])))
def hn50t (aa al a2 : Option Addr) (na ca nl cl n2 c2 : Nat) (i x0 x1 : Int) (b1 o1 : Nat) (H J J2 X : Heap) : Hs := (.sym (.pur 22000010 (.pointer (some ⟨b1, o1, none⟩)) (.bas 7000011 (.agg ⟨[(.int .i64 x0), (.int .i64 x1)]⟩) (.use 30000019 (rS a2 n2 c2) ⟨[(1, .seg J2)], [.seg X]⟩ .nil))) .nil)
theorem tree50t (aa al a2 : Option Addr) (na ca nl cl n2 c2 : Nat) (i x0 x1 : Int) (b1 o1 : Nat) (H J J2 X : Heap) : pieceS [] (gE 0) (cE 0) 100 (fun i => exL i body50_0 || inL [2, 3] i) body50_0 (hn50t aa al a2 na ca nl cl n2 c2 i x0 x1 b1 o1 H J J2 X) (frS 22 [(2, nS), (3, (rS al nl cl)), (6, (rS aa na ca)), (7, (sI (na : Int))), (8, (sI i))]) [.seg H, .seg J] =
(.br (decide (i < (na : Int)))
 (.claim (opA (Plain.env [] (gE 0)) (.iadr 2 none (.const (.slice aa na ca)) (kI i)) [] [] = some ((.pointer (some ⟨b1, o1, none⟩)), []))
 (.claim (opA (Plain.env [] (gE 0)) (.load (.const (.pointer (some ⟨b1, o1, none⟩))) (some 2)) [] H = some ((.agg ⟨[(.int .i64 x0), (.int .i64 x1)]⟩), H))
 (.claim (List.length J2 = List.length J) (.claim (opA (Plain.env [] (gE 0)) (.append 5 40 (.const (.slice al nl cl)) (.const (denV (ofs [.seg H, .seg J, .blk .fix [(sI x0), (sI x1)], .blk .fix [(sI x0), (sI x1), (sI 0), (sI 0), (sB false)]]) (.sl 3 0 1 1)))) [] (denH [.seg H, .seg J, .blk .fix [(sI x0), (sI x1)], .blk .fix [(sI x0), (sI x1), (sI 0), (sI 0), (sB false)]]) = some ((.slice a2 n2 c2), denH [.seg H, .seg J2, .blk .fix [(sI x0), (sI x1)], .blk .fix [(sI x0), (sI x1), (sI 0), (sI 0), (sB false)], .seg X]))
 (.ret .normal (frS 22 [(2, nS), (3, (rS a2 n2 c2)), (6, (rS aa na ca)), (7, (sI (na : Int))), (8, (sI (IntKind.wrap .i64 (i + 1))))]) [.seg H, .seg J2, .blk .fix [(sI x0), (sI x1)], .blk .fix [(sI x0), (sI x1), (sI 0), (sI 0), (sB false)], .seg X])))))
 (.ret (.exit 0) (frS 22 [(2, nS), (3, (rS al nl cl)), (6, (rS aa na ca)), (7, (sI (na : Int))), (8, (sI i))]) [.seg H, .seg J])) := by kernel_rfl
def hn50w (aa al : Option Addr) (na ca nl cl : Nat) (H X : Heap) : Hs := (.lp 0 [2, 3] (frS 22 [(2, nS), (3, (rS al nl cl))]) ⟨[], [.seg X]⟩ .nil)
theorem tree50w (aa al : Option Addr) (na ca nl cl : Nat) (H X : Heap) : fnS [] (gE 0) (cE 0) 100 il50 (hn50w aa al na ca nl cl H X) [(rS aa na ca)] [.seg H] =
(.claim (Wp (Plain.env [] (gE 0)) (inL [2, 3]) (.block 0 (.loop body50_0)) (denF [.seg H] (frS 22 [(2, nS), (3, nS), (6, (rS aa na ca)), (7, (sI (na : Int))), (8, (sI 0))])) (denH [.seg H]) fun e_ s_ h_ => e_ = .normal ∧ s_ = denF [.seg H, .seg X] (frS 22 [(2, nS), (3, (rS al nl cl))]) ∧ h_ = denH [.seg H, .seg X])
 (.ret .ret [(rS al nl cl)] [.seg H, .seg X])) := by kernel_rfl
theorem loop {H : Heap} {aa : Option Addr} {ca : Nat} {l : List R2} (ha : RowsW 2 H (.slice aa l.length ca) (l.map e2)) (hn : l.length ≤ 1000000) :
  Wp (Plain.env [] (gE 0)) (inL [2, 3]) (.block 0 (.loop body50_0)) (denF [.seg H] (frS 22 [(2, nS), (3, nS), (6, (rS aa l.length ca)), (7, (sI (l.length : Int))), (8, (sI 0))])) (denH [.seg H]) fun e t h => ∃ (al : Option Addr) (cl : Nat) (X : Heap), (e = .normal ∧ t = denF [.seg H, .seg X] (frS 22 [(2, nS), (3, (rS al l.length cl))]) ∧ h = denH [.seg H, .seg X]) ∧ LsS 5 (denH [.seg H]) X (.slice al l.length cl) ((l.map newL).map e5) := by
 refine Wp.bl (fun m t h => ∃ (i : Nat) (J : Heap) (al : Option Addr) (cl : Nat), i + m = l.length ∧ t = denF [.seg H, .seg J] (frS 22 [(2, nS), (3, (rS al i cl)), (6, (rS aa l.length ca)), (7, (sI (l.length : Int))), (8, (sI i))]) ∧ h = denH [.seg H, .seg J] ∧ LsS 5 (denH [.seg H]) J (.slice al i cl) (((l.take i).map newL).map e5)) ?_ l.length _ _
  ⟨0, [], none, 0, by omega, by show denF _ _ = denF _ _; kernel_rfl, by simp [denH, denL, It.den], .inl ⟨rfl, rfl⟩⟩
 rintro m t h ⟨i, J, al, cl, hi, rfl, rfl, hl⟩
 by_cases hlt : i < l.length
 ·obtain ⟨x, hx⟩ := getE hlt
  obtain ⟨b1, o1, r1⟩ := ha.rowM hx
  have hlen : (((l.take i).map newL).map e5).length = i := by simp; omega
  obtain ⟨a2, c2, J2, X, q1, q2, q3⟩ := appRow (I := [.seg H]) (R := [.blk .fix [(sI x.a), (sI x.b)]]) (R0 := [some ⟨.fix, [.int .i64 x.a, .int .i64 x.b]⟩]) rfl (fun f => rfl) (w := 5) (eby := 40) hl (row := e5 (newL x)) (cs := [(sI x.a), (sI x.b), (sI 0), (sI 0), (sB false)]) (fun f => rfl) rfl (by decide) (by rw [hlen]; omega) (by rw [hlen]; omega)
  rw [hlen] at q2 q3
  refine Wp.tree (cE_ok 0) (tree50t aa al a2 l.length ca i cl (i + 1) c2 i x.a x.b b1 o1 H J J2 X) ⟨rfl, rfl⟩ ⟨fun _ => ⟨r1.ptr _ _, r1.all _, q1, q2 _, end_next (m - 1) (by omega) ⟨i + 1, J2 ++ ([some ⟨.fix, [.int .i64 x.a, .int .i64 x.b]⟩] ++ (some ⟨.fix, e5 (newL x)⟩ :: X)), a2, c2, by omega, ?_, ?_, ?_⟩⟩, fun q => by simp at q; omega⟩
  ·rw [wrap64 (by omega) (by omega)]; show denF _ _ = denF _ _; kernel_rfl
  ·simp [denH, denL, It.den, den0, e5, newL]
  ·rw [WB.take_one hx, List.map_append, List.map_append]
   exact q3
 ·have hil : i = l.length := by omega
  subst hil
  refine Wp.tree (cE_ok 0) (tree50t aa al al l.length ca l.length cl 0 0 l.length 0 0 0 0 H J J J) ⟨rfl, rfl⟩ ⟨fun q => by simp at q, fun _ => end_exit ⟨al, cl, J, ⟨rfl, by show denF _ _ = denF _ _; kernel_rfl, rfl⟩, ?_⟩⟩
  rw [List.take_length] at hl
  exact hl
theorem sum50 : Summ Try.prog 50 (runE (Plain.env [] (gE 0)) il50) := Summ.runE mixed (gE_ok 0) (gE_q 0) st50
theorem use50 {I : SH} (hI : I.all (It.bnd I.length) = true) {v : Value} {l : List R2} (ha : RowsW 2 (denH I) v (l.map e2)) (hn : l.length ≤ 1000000) :
  ∃ (al : Option Addr) (cl : Nat) (X : Heap), LsS 5 (denH I) X (.slice al l.length cl) ((l.map newL).map e5) ∧ runE (Plain.env [] (gE 0)) il50 [v] (denH I) = some (.slice al l.length cl, denH (I ++ [.seg X])) := by
 obtain ⟨aa, ca, rfl⟩ := ha.slcM
 have e0 : denH [.seg (denH I)] = denH I := by simp [denH, denL, It.den]
 obtain ⟨e, t1, h1, ⟨al, cl, X, ⟨rfl, rfl, rfl⟩, hl⟩, w⟩ := (loop ha hn).exact
 rw [e0] at hl
 refine ⟨al, cl, X, hl, ?_⟩
 obtain ⟨v, h', r, rfl, rfl⟩ := fnS_run (Q := fun v h' => v = .slice al l.length cl ∧ h' = denH I ++ X) (cE_ok 0) (tree50w aa al l.length ca l.length cl (denH I) X) ⟨rfl, rfl⟩ ⟨w, rfl, by simp [denH, denL, It.den]⟩
 rw [denH_snoc I hI]
 rw [e0] at r
 exact r
end G
namespace A
def il88 : FnIL := ⟨18, [.tmp 2], .seq (.reg [ oT 2 (.mov (kI 0))]) (.seq (.reg [ oT 3 (.mov (kI 0))]) (.seq (.seq (.reg [ oT 6 (.mov (.tmp 0)), oT 7 (.len (.tmp 6)), oT 8 (.mov (kI 0))]) (.block 0 (.loop (.seq (.reg [ oT 9 (.bin .lss (.tmp 8) (.tmp 7))]) (.seq (.ite (.tmp 9) (.skip) (.exit 0)) (.seq (.block 1 (.seq (.reg [ oT 10 (.iadr 5 none (.tmp 6) (.tmp 8)), oT 11 (.load (.tmp 10) (some 5)), oT 5 (.alloc [(.int .i64 0), (.int .i64 0), (.int .i64 0), (.int .i64 0), (.bool false)]), oN (.store (.tmp 5) (.tmp 11) 5)]) (.reg [ oT 12 (.mov (.tmp 3)), oT 13 (.fadr 1 (.tmp 5)), oT 14 (.load (.tmp 13) none), oT 15 (.bin .add (.tmp 12) (.tmp 14)), oT 3 (.mov (.tmp 15))]))) (.reg [ oT 16 (.bin .add (.tmp 8) (kI 1)), oT 8 (.mov (.tmp 16))]))))))) (.seq (.reg [ oT 17 (.mov (.tmp 3)), oT 2 (.mov (.tmp 17))]) (.ret))))⟩
theorem st88 : stF Try.prog qt 88 = some il88 := by kernel_rfl
def body88_0 : IL := .seq (.reg [ oT 9 (.bin .lss (.tmp 8) (.tmp 7))]) (.seq (.ite (.tmp 9) (.skip) (.exit 0)) (.seq (.block 1 (.seq (.reg [ oT 10 (.iadr 5 none (.tmp 6) (.tmp 8)), oT 11 (.load (.tmp 10) (some 5)), oT 5 (.alloc [(.int .i64 0), (.int .i64 0), (.int .i64 0), (.int .i64 0), (.bool false)]), oN (.store (.tmp 5) (.tmp 11) 5)]) (.reg [ oT 12 (.mov (.tmp 3)), oT 13 (.fadr 1 (.tmp 5)), oT 14 (.load (.tmp 13) none), oT 15 (.bin .add (.tmp 12) (.tmp 14)), oT 3 (.mov (.tmp 15))]))) (.reg [ oT 16 (.bin .add (.tmp 8) (kI 1)), oT 8 (.mov (.tmp 16))])))
def hn88t (s : Option Addr) (n c : Nat) (t i : Int) (x : L5) (b1 o1 : Nat) (H J : Heap) : Hs := (.sym (.pur 22000010 (.pointer (some ⟨b1, o1, none⟩)) (.bas 7000011 (.agg ⟨[(.int .i64 x.a), (.int .i64 x.b), (.int .i64 x.c), (.int .i64 x.d), (.bool x.e)]⟩) .nil)) .nil)
theorem tree88t (s : Option Addr) (n c : Nat) (t i : Int) (x : L5) (b1 o1 : Nat) (H J : Heap) : pieceS [] (gE 0) (cE 0) 100 (fun i => exL i body88_0 || inL [2, 3] i) body88_0 (hn88t s n c t i x b1 o1 H J) (frS 18 [(2, (sI 0)), (3, (sI t)), (6, (rS s n c)), (7, (sI (n : Int))), (8, (sI i))]) [.seg H, .seg J] =
(.br (decide (i < (n : Int)))
 (.claim (opA (Plain.env [] (gE 0)) (.iadr 5 none (.const (.slice s n c)) (kI i)) [] [] = some ((.pointer (some ⟨b1, o1, none⟩)), []))
 (.claim (opA (Plain.env [] (gE 0)) (.load (.const (.pointer (some ⟨b1, o1, none⟩))) (some 5)) [] H = some ((.agg ⟨[(.int .i64 x.a), (.int .i64 x.b), (.int .i64 x.c), (.int .i64 x.d), (.bool x.e)]⟩), H))
 (.ret .normal (frS 18 [(2, (sI 0)), (3, (sI (IntKind.wrap .i64 (t + x.b)))), (6, (rS s n c)), (7, (sI (n : Int))), (8, (sI (IntKind.wrap .i64 (i + 1))))]) [.seg H, .seg J, .blk .fix [(sI x.a), (sI x.b), (sI x.c), (sI x.d), (sB x.e)]])))
 (.ret (.exit 0) (frS 18 [(2, (sI 0)), (3, (sI t)), (6, (rS s n c)), (7, (sI (n : Int))), (8, (sI i))]) [.seg H, .seg J])) := by kernel_rfl
def hn88w (s : Option Addr) (n c : Nat) (r : Int) (H X : Heap) : Hs := (.lp 0 [2, 3] (frS 18 [(2, (sI 0)), (3, (sI r))]) ⟨[], [.seg X]⟩ .nil)
theorem tree88w (s : Option Addr) (n c : Nat) (r : Int) (H X : Heap) : fnS [] (gE 0) (cE 0) 100 il88 (hn88w s n c r H X) [(rS s n c)] [.seg H] =
(.claim (Wp (Plain.env [] (gE 0)) (inL [2, 3]) (.block 0 (.loop body88_0)) (denF [.seg H] (frS 18 [(2, (sI 0)), (3, (sI 0)), (6, (rS s n c)), (7, (sI (n : Int))), (8, (sI 0))])) (denH [.seg H]) fun e_ s_ h_ => e_ = .normal ∧ s_ = denF [.seg H, .seg X] (frS 18 [(2, (sI 0)), (3, (sI r))]) ∧ h_ = denH [.seg H, .seg X])
 (.ret .ret [(sI r)] [.seg H, .seg X])) := by kernel_rfl
theorem loop {H : Heap} {s : Option Addr} {c : Nat} {l : List L5} (hs : RowsW 5 H (.slice s l.length c) (l.map e5)) (hn : l.length ≤ 1099511627776) :
  Wp (Plain.env [] (gE 0)) (inL [2, 3]) (.block 0 (.loop body88_0)) (denF [.seg H] (frS 18 [(2, (sI 0)), (3, (sI 0)), (6, (rS s l.length c)), (7, (sI (l.length : Int))), (8, (sI 0))])) (denH [.seg H]) fun e t h => ∃ X, e = .normal ∧ t = denF [.seg H, .seg X] (frS 18 [(2, (sI 0)), (3, (sI (sumF L5.b 0 l)))]) ∧ h = denH [.seg H, .seg X] := by
 refine Wp.bl (fun m t h => ∃ (i : Nat) (n : Int) (J : Heap), i + m = l.length ∧ t = denF [.seg H, .seg J] (frS 18 [(2, (sI 0)), (3, (sI n)), (6, (rS s l.length c)), (7, (sI (l.length : Int))), (8, (sI i))]) ∧ h = denH [.seg H, .seg J] ∧ sumF L5.b 0 l = sumF L5.b n (l.drop i)) ?_ l.length _ _ ⟨0, 0, [], by omega, by show denF _ _ = denF _ _; kernel_rfl, by simp [denH, denL, It.den], rfl⟩
 rintro m t h ⟨i, n, J, hi, rfl, rfl, hr⟩
 by_cases hlt : i < l.length
 ·obtain ⟨x, hx⟩ := getE hlt
  obtain ⟨b1, o1, r1⟩ := hs.rowM hx
  have hd : l.drop i = x :: l.drop (i + 1) := by
   rw [List.drop_eq_getElem_cons hlt]
   rw [List.getElem?_eq_getElem hlt] at hx
   cases hx; rfl
  rw [hd] at hr
  refine Wp.tree (cE_ok 0) (tree88t s l.length c n i x b1 o1 H J) ⟨rfl, rfl⟩ ⟨fun _ => ⟨r1.ptr _ _, r1.all _, end_next (m - 1) (by omega) ⟨i + 1, wr (n + x.b), J ++ [some ⟨.fix, e5 x⟩], by omega, ?_, ?_, hr⟩⟩, fun q => by simp at q; omega⟩
  ·rw [wrap64 (x := (i : Int) + 1) (by omega) (by omega)]; show denF _ _ = denF _ _; kernel_rfl
  ·simp [denH, denL, It.den, den0, e5]
 ·have hil : i = l.length := by omega
  refine Wp.tree (cE_ok 0) (tree88t s l.length c n i ⟨0, 0, 0, 0, false⟩ 0 0 H J) ⟨rfl, rfl⟩ ⟨fun q => by simp at q; omega, fun _ => end_exit ⟨J, rfl, ?_, rfl⟩⟩
  rw [hr, hil, List.drop_length]
  show denF _ _ = denF _ _; kernel_rfl
theorem sim {H : Heap} {s : Value} {l : List L5} (hs : RowsW 5 H s (l.map e5)) (hn : l.length ≤ 1099511627776) : Sim Try.prog 88 [s] H fun v h' => v = .int .i64 (sumF L5.b 0 l) ∧ h' = H := by
 refine (Sim.plain (R := fun v => v = .int .i64 (sumF L5.b 0 l)) ?_ (fun v hv => by subst hv; rfl)).mono fun v h' q => q
 obtain ⟨sa, sc, rfl⟩ := hs.slcM
 obtain ⟨e, t1, h1, ⟨X, rfl, rfl, rfl⟩, w⟩ := (loop hs hn).exact
 have := fnS_tree (Q := fun v h' => v = .int .i64 (sumF L5.b 0 l) ∧ ∃ X, h' = H ++ X) mixed (gE_ok 0) (gE_q 0) (cE_ok 0) st88 (tree88w sa l.length sc (sumF L5.b 0 l) H X) ⟨rfl, rfl⟩ ⟨w, rfl, X, by simp [denH, denL, It.den]⟩
 simpa [denH, denL, It.den, denF, denV, denA, den0] using this
def pre (l : List L5) (args : List Value) (h : Heap) : Prop := ∃ s, args = [s] ∧ RowsW 5 h s (l.map e5) ∧ l.length ≤ 1099511627776
def res (l : List L5) (h : Heap) : Value × Heap := (.int .i64 (sumF L5.b 0 l), h)
theorem summ : Summ Try.prog 88 (smry pre res) := smry_ok fun l args h ⟨s, e, hs, hn⟩ => by subst e; exact sim hs hn
theorem call {h : Heap} {s : Value} {l : List L5} (hs : RowsW 5 h s (l.map e5)) (hn : l.length ≤ 1099511627776) : smry pre res [s] h = some (.int .i64 (sumF L5.b 0 l), h) :=
 smry_some ⟨s, rfl, hs, hn⟩ fun y ⟨s', e, hs', _⟩ => by
  simp only [List.cons.injEq, and_true] at e
  subst e
  unfold res
  rw [map_inj e5_1 (hs.uniq hs')]
end A
namespace T
open PO
def il87 : FnIL := ⟨67, [.tmp 2], .seq (.reg [ oT 2 (.mov (.const (.bool false)))]) (.seq (.seq (.reg [ oT 7 (.mov (.tmp 0)), oT 8 (.len (.tmp 7)), oT 9 (.bin .gtr (.tmp 8) (kI 64))]) (.ite (.tmp 9) (.seq (.reg [ oT 2 (.mov (.const (.bool false)))]) (.ret)) (.skip))) (.seq (.seq (.reg [ oT 10 (.mov (.tmp 0)), oT 11 (.len (.tmp 10)), oT 12 (.mov (kI 0))]) (.block 0 (.loop (.seq (.reg [ oT 13 (.bin .lss (.tmp 12) (.tmp 11))]) (.seq (.ite (.tmp 13) (.skip) (.exit 0)) (.seq (.block 1 (.seq (.reg [ oT 14 (.mov (.tmp 12)), oT 15 (.iadr 7 none (.tmp 10) (.tmp 12)), oT 16 (.load (.tmp 15) (some 7)), oT 4 (.alloc [(.int .i64 0), (.int .i64 0), (.int .i64 0), (.int .i64 0), (.int .i64 0), (.int .i64 0), (.bool false)]), oT 3 (.mov (.tmp 14)), oN (.store (.tmp 4) (.tmp 16) 7)]) (.seq (.seq (.dreg [ oT 17 (.fadr 0 (.tmp 4)), oT 18 (.load (.tmp 17) none), oT 19 (.bin .lss (.tmp 18) (kI 1)), oT 20 (.mov (.tmp 19)), ⟨(some 21), (some (20, false)), .mov (.tmp 3)⟩, ⟨(some 22), (some (20, false)), .bin .gtr (.tmp 21) (kI 0)⟩, ⟨(some 23), (some (20, false)), .mov (.tmp 22)⟩, ⟨(some 24), (some (23, true)), .mov (.tmp 0)⟩, ⟨(some 25), (some (23, true)), .mov (.tmp 3)⟩, ⟨(some 26), (some (23, true)), .bin .sub (.tmp 25) (kI 1)⟩, ⟨(some 27), (some (23, true)), .iadr 7 none (.tmp 24) (.tmp 26)⟩, ⟨(some 28), (some (23, true)), .fadr 0 (.tmp 27)⟩, ⟨(some 29), (some (23, true)), .load (.tmp 28) none⟩, ⟨(some 30), (some (23, true)), .fadr 0 (.tmp 4)⟩, ⟨(some 31), (some (23, true)), .load (.tmp 30) none⟩, ⟨(some 32), (some (23, true)), .bin .geq (.tmp 29) (.tmp 31)⟩, ⟨(some 33), (some (20, false)), .pick (.tmp 23) (.tmp 32) (.const (.bool false))⟩, oT 34 (.pick (.tmp 20) (.const (.bool true)) (.tmp 33)), oT 35 (.mov (.tmp 34)), ⟨(some 36), (some (35, false)), .fadr 5 (.tmp 4)⟩, ⟨(some 37), (some (35, false)), .load (.tmp 36) none⟩, ⟨(some 38), (some (35, false)), .bin .lss (.tmp 37) (kI 0)⟩, oT 39 (.pick (.tmp 35) (.const (.bool true)) (.tmp 38)), oT 40 (.mov (.tmp 39)), ⟨(some 41), (some (40, false)), .fadr 5 (.tmp 4)⟩, ⟨(some 42), (some (40, false)), .load (.tmp 41) none⟩, ⟨(some 43), (some (40, false)), .bin .gtr (.tmp 42) (kI 12)⟩, oT 44 (.pick (.tmp 40) (.const (.bool true)) (.tmp 43))] []) (.ite (.tmp 44) (.seq (.reg [ oT 2 (.mov (.const (.bool false)))]) (.ret)) (.skip))) (.seq (.reg [ oT 45 (.fadr 1 (.tmp 4)), oT 46 (.load (.tmp 45) none), oT 47 (.fadr 2 (.tmp 4)), oT 48 (.load (.tmp 47) none), oT 49 (.fadr 3 (.tmp 4)), oT 50 (.load (.tmp 49) none), oT 51 (.fadr 4 (.tmp 4)), oT 52 (.load (.tmp 51) none), oT 53 (.mkrow [(.int .i64 0), (.int .i64 0), (.int .i64 0), (.int .i64 0)] 4 [(0, 1, (.tmp 46)), (1, 1, (.tmp 48)), (2, 1, (.tmp 50)), (3, 1, (.tmp 52))]), oT 54 (.len (.tmp 53)), oT 55 (.mov (kI 0))]) (.block 2 (.loop (.seq (.reg [ oT 56 (.bin .lss (.tmp 55) (.tmp 54))]) (.seq (.ite (.tmp 56) (.skip) (.exit 2)) (.seq (.block 3 (.seq (.reg [ oT 57 (.iadr 1 none (.tmp 53) (.tmp 55)), oT 58 (.load (.tmp 57) none), oT 6 (.mov (.tmp 58))]) (.seq (.reg [ oT 59 (.mov (.tmp 6)), oT 60 (.bin .lss (.tmp 59) (kI 0)), oT 61 (.mov (.tmp 60)), ⟨(some 62), (some (61, false)), .mov (.tmp 6)⟩, ⟨(some 63), (some (61, false)), .bin .gtr (.tmp 62) (kI 1099511627776)⟩, oT 64 (.pick (.tmp 61) (.const (.bool true)) (.tmp 63))]) (.ite (.tmp 64) (.seq (.reg [ oT 2 (.mov (.const (.bool false)))]) (.ret)) (.skip))))) (.reg [ oT 65 (.bin .add (.tmp 55) (kI 1)), oT 55 (.mov (.tmp 65))])))))))))) (.reg [ oT 66 (.bin .add (.tmp 12) (kI 1)), oT 12 (.mov (.tmp 66))]))))))) (.seq (.reg [ oT 2 (.mov (.const (.bool true)))]) (.ret))))⟩
theorem st87 : stF Try.prog qt 87 = some il87 := by kernel_rfl
def body87_0 : IL := .seq (.reg [ oT 13 (.bin .lss (.tmp 12) (.tmp 11))]) (.seq (.ite (.tmp 13) (.skip) (.exit 0)) (.seq (.block 1 (.seq (.reg [ oT 14 (.mov (.tmp 12)), oT 15 (.iadr 7 none (.tmp 10) (.tmp 12)), oT 16 (.load (.tmp 15) (some 7)), oT 4 (.alloc [(.int .i64 0), (.int .i64 0), (.int .i64 0), (.int .i64 0), (.int .i64 0), (.int .i64 0), (.bool false)]), oT 3 (.mov (.tmp 14)), oN (.store (.tmp 4) (.tmp 16) 7)]) (.seq (.seq (.dreg [ oT 17 (.fadr 0 (.tmp 4)), oT 18 (.load (.tmp 17) none), oT 19 (.bin .lss (.tmp 18) (kI 1)), oT 20 (.mov (.tmp 19)), ⟨(some 21), (some (20, false)), .mov (.tmp 3)⟩, ⟨(some 22), (some (20, false)), .bin .gtr (.tmp 21) (kI 0)⟩, ⟨(some 23), (some (20, false)), .mov (.tmp 22)⟩, ⟨(some 24), (some (23, true)), .mov (.tmp 0)⟩, ⟨(some 25), (some (23, true)), .mov (.tmp 3)⟩, ⟨(some 26), (some (23, true)), .bin .sub (.tmp 25) (kI 1)⟩, ⟨(some 27), (some (23, true)), .iadr 7 none (.tmp 24) (.tmp 26)⟩, ⟨(some 28), (some (23, true)), .fadr 0 (.tmp 27)⟩, ⟨(some 29), (some (23, true)), .load (.tmp 28) none⟩, ⟨(some 30), (some (23, true)), .fadr 0 (.tmp 4)⟩, ⟨(some 31), (some (23, true)), .load (.tmp 30) none⟩, ⟨(some 32), (some (23, true)), .bin .geq (.tmp 29) (.tmp 31)⟩, ⟨(some 33), (some (20, false)), .pick (.tmp 23) (.tmp 32) (.const (.bool false))⟩, oT 34 (.pick (.tmp 20) (.const (.bool true)) (.tmp 33)), oT 35 (.mov (.tmp 34)), ⟨(some 36), (some (35, false)), .fadr 5 (.tmp 4)⟩, ⟨(some 37), (some (35, false)), .load (.tmp 36) none⟩, ⟨(some 38), (some (35, false)), .bin .lss (.tmp 37) (kI 0)⟩, oT 39 (.pick (.tmp 35) (.const (.bool true)) (.tmp 38)), oT 40 (.mov (.tmp 39)), ⟨(some 41), (some (40, false)), .fadr 5 (.tmp 4)⟩, ⟨(some 42), (some (40, false)), .load (.tmp 41) none⟩, ⟨(some 43), (some (40, false)), .bin .gtr (.tmp 42) (kI 12)⟩, oT 44 (.pick (.tmp 40) (.const (.bool true)) (.tmp 43))] []) (.ite (.tmp 44) (.seq (.reg [ oT 2 (.mov (.const (.bool false)))]) (.ret)) (.skip))) (.seq (.reg [ oT 45 (.fadr 1 (.tmp 4)), oT 46 (.load (.tmp 45) none), oT 47 (.fadr 2 (.tmp 4)), oT 48 (.load (.tmp 47) none), oT 49 (.fadr 3 (.tmp 4)), oT 50 (.load (.tmp 49) none), oT 51 (.fadr 4 (.tmp 4)), oT 52 (.load (.tmp 51) none), oT 53 (.mkrow [(.int .i64 0), (.int .i64 0), (.int .i64 0), (.int .i64 0)] 4 [(0, 1, (.tmp 46)), (1, 1, (.tmp 48)), (2, 1, (.tmp 50)), (3, 1, (.tmp 52))]), oT 54 (.len (.tmp 53)), oT 55 (.mov (kI 0))]) (.block 2 (.loop (.seq (.reg [ oT 56 (.bin .lss (.tmp 55) (.tmp 54))]) (.seq (.ite (.tmp 56) (.skip) (.exit 2)) (.seq (.block 3 (.seq (.reg [ oT 57 (.iadr 1 none (.tmp 53) (.tmp 55)), oT 58 (.load (.tmp 57) none), oT 6 (.mov (.tmp 58))]) (.seq (.reg [ oT 59 (.mov (.tmp 6)), oT 60 (.bin .lss (.tmp 59) (kI 0)), oT 61 (.mov (.tmp 60)), ⟨(some 62), (some (61, false)), .mov (.tmp 6)⟩, ⟨(some 63), (some (61, false)), .bin .gtr (.tmp 62) (kI 1099511627776)⟩, oT 64 (.pick (.tmp 61) (.const (.bool true)) (.tmp 63))]) (.ite (.tmp 64) (.seq (.reg [ oT 2 (.mov (.const (.bool false)))]) (.ret)) (.skip))))) (.reg [ oT 65 (.bin .add (.tmp 55) (kI 1)), oT 55 (.mov (.tmp 65))])))))))))) (.reg [ oT 66 (.bin .add (.tmp 12) (kI 1)), oT 12 (.mov (.tmp 66))])))
def hn870 (s : Option Addr) (n c : Nat) (i i1 p : Int) (y : R7) (b1 o1 b2 o2 : Nat) (H J : Heap) : Hs := (.sym (.pur 22000015 (.pointer (some ⟨b1, o1, none⟩)) (.bas 7000016 (.agg ⟨[(.int .i64 y.a), (.int .i64 y.b), (.int .i64 y.c), (.int .i64 y.d), (.int .i64 y.e), (.int .i64 y.f), (.bool y.g)]⟩) (.sym (.con (.con (.con (.con (.con (.con (.con (.con (.con (.con (.con (.con (.con .nil))))))))))))) (.con (.con (.no (.con (.con (.con (.con (.con (.con (.con (.con (.con (.con (.con (.con (.con (.con (.con (.join 4 (.con (.con (.con (.con .nil)))) (.con (.con (.con (.con .nil)))) (.sym .nil (.con (.join 3 (.con (.con (.con .nil))) (.con (.con (.con .nil))) (.sym .nil (.con (.join 3 (.con (.con (.con .nil))) (.con (.con (.con .nil))) (.sym .nil (.con (.join 3 (.con (.con (.con .nil))) (.con (.con (.con .nil))) (.sym .nil (.con (.join 3 (.con (.con (.con .nil))) (.con (.con (.con .nil))) (.sym .nil (.con .nil)))))))))))))))))))))))))))))))))))) .nil)
theorem tree870 (s : Option Addr) (n c : Nat) (i i1 p : Int) (y : R7) (b1 o1 b2 o2 : Nat) (H J : Heap) : pieceS [] (gE 0) (cE 0) 300 (fun i => exL i body87_0 || inL [2] i) body87_0 (hn870 s n c i i1 p y b1 o1 b2 o2 H J) (frS 67 [(0, (rS s n c)), (2, (sB false)), (10, (rS s n c)), (11, (sI (n : Int))), (12, (sI i))]) [.seg H, .seg J] =
(.br (decide (i < (n : Int)))
 (.claim (opA (Plain.env [] (gE 0)) (.iadr 7 none (.const (.slice s n c)) (kI i)) [] [] = some ((.pointer (some ⟨b1, o1, none⟩)), []))
 (.claim (opA (Plain.env [] (gE 0)) (.load (.const (.pointer (some ⟨b1, o1, none⟩))) (some 7)) [] H = some ((.agg ⟨[(.int .i64 y.a), (.int .i64 y.b), (.int .i64 y.c), (.int .i64 y.d), (.int .i64 y.e), (.int .i64 y.f), (.bool y.g)]⟩), H))
 (.req true (.br (decide (y.a < 1))
 (.ret .ret (frS 67 [(0, (rS s n c)), (2, (sB false)), (10, (rS s n c)), (11, (sI (n : Int))), (12, (sI i))]) [.seg H, .seg J, .blk .fix [(sI y.a), (sI y.b), (sI y.c), (sI y.d), (sI y.e), (sI y.f), (sB y.g)]])
 (.req (!(decide (i > 0))) (.req (bif (decide (y.f < 0)) then true else true) (.br (bif (decide (y.f < 0)) then true else (decide (y.f > 12)))
 (.ret .ret (frS 67 [(0, (rS s n c)), (2, (sB false)), (10, (rS s n c)), (11, (sI (n : Int))), (12, (sI i))]) [.seg H, .seg J, .blk .fix [(sI y.a), (sI y.b), (sI y.c), (sI y.d), (sI y.e), (sI y.f), (sB y.g)]])
 (.req (bif (decide (y.b < 0)) then true else true) (.br (bif (decide (y.b < 0)) then true else (decide (y.b > 1099511627776)))
 (.ret .ret (frS 67 [(0, (rS s n c)), (2, (sB false)), (10, (rS s n c)), (11, (sI (n : Int))), (12, (sI i))]) [.seg H, .seg J, .blk .fix [(sI y.a), (sI y.b), (sI y.c), (sI y.d), (sI y.e), (sI y.f), (sB y.g)], .blk .fix [(sI y.b), (sI y.c), (sI y.d), (sI y.e)]])
 (.req (bif (decide (y.c < 0)) then true else true) (.br (bif (decide (y.c < 0)) then true else (decide (y.c > 1099511627776)))
 (.ret .ret (frS 67 [(0, (rS s n c)), (2, (sB false)), (10, (rS s n c)), (11, (sI (n : Int))), (12, (sI i))]) [.seg H, .seg J, .blk .fix [(sI y.a), (sI y.b), (sI y.c), (sI y.d), (sI y.e), (sI y.f), (sB y.g)], .blk .fix [(sI y.b), (sI y.c), (sI y.d), (sI y.e)]])
 (.req (bif (decide (y.d < 0)) then true else true) (.br (bif (decide (y.d < 0)) then true else (decide (y.d > 1099511627776)))
 (.ret .ret (frS 67 [(0, (rS s n c)), (2, (sB false)), (10, (rS s n c)), (11, (sI (n : Int))), (12, (sI i))]) [.seg H, .seg J, .blk .fix [(sI y.a), (sI y.b), (sI y.c), (sI y.d), (sI y.e), (sI y.f), (sB y.g)], .blk .fix [(sI y.b), (sI y.c), (sI y.d), (sI y.e)]])
 (.req (bif (decide (y.e < 0)) then true else true) (.br (bif (decide (y.e < 0)) then true else (decide (y.e > 1099511627776)))
 (.ret .ret (frS 67 [(0, (rS s n c)), (2, (sB false)), (10, (rS s n c)), (11, (sI (n : Int))), (12, (sI i))]) [.seg H, .seg J, .blk .fix [(sI y.a), (sI y.b), (sI y.c), (sI y.d), (sI y.e), (sI y.f), (sB y.g)], .blk .fix [(sI y.b), (sI y.c), (sI y.d), (sI y.e)]])
 (.ret .normal (frS 67 [(0, (rS s n c)), (2, (sB false)), (10, (rS s n c)), (11, (sI (n : Int))), (12, (sI (IntKind.wrap .i64 (i + 1))))]) [.seg H, .seg J, .blk .fix [(sI y.a), (sI y.b), (sI y.c), (sI y.d), (sI y.e), (sI y.f), (sB y.g)], .blk .fix [(sI y.b), (sI y.c), (sI y.d), (sI y.e)]]))))))))))))))))
 (.ret (.exit 0) (frS 67 [(0, (rS s n c)), (2, (sB false)), (10, (rS s n c)), (11, (sI (n : Int))), (12, (sI i))]) [.seg H, .seg J])) := by kernel_rfl
def hn871 (s : Option Addr) (n c : Nat) (i i1 p : Int) (y : R7) (b1 o1 b2 o2 : Nat) (H J : Heap) : Hs := (.sym (.pur 22000015 (.pointer (some ⟨b1, o1, none⟩)) (.bas 7000016 (.agg ⟨[(.int .i64 y.a), (.int .i64 y.b), (.int .i64 y.c), (.int .i64 y.d), (.int .i64 y.e), (.int .i64 y.f), (.bool y.g)]⟩) (.sym (.con (.con (.con (.con (.con (.con (.con (.con (.con (.con (.con (.con (.con .nil))))))))))))) (.con (.con (.yes (.con (.con (.pur 10000026 (.int .i64 i1) (.con (.pur 22000027 (.pointer (some ⟨b2, o2, none⟩)) (.con (.con (.bas 7000029 (.int .i64 p) (.con (.con (.con (.con (.con (.con (.join 4 (.con (.con (.con (.con .nil)))) (.con (.con (.con (.con .nil)))) (.join 4 (.con (.con (.con (.con .nil)))) (.con (.con (.con (.con .nil)))) (.sym .nil (.con (.join 3 (.con (.con (.con .nil))) (.con (.con (.con .nil))) (.sym .nil (.con (.join 3 (.con (.con (.con .nil))) (.con (.con (.con .nil))) (.sym .nil (.con (.join 3 (.con (.con (.con .nil))) (.con (.con (.con .nil))) (.sym .nil (.con (.join 3 (.con (.con (.con .nil))) (.con (.con (.con .nil))) (.sym .nil (.con .nil)))))))))))))))))))))))))))))))))))) .nil)
theorem tree871 (s : Option Addr) (n c : Nat) (i i1 p : Int) (y : R7) (b1 o1 b2 o2 : Nat) (H J : Heap) : pieceS [] (gE 0) (cE 0) 300 (fun i => exL i body87_0 || inL [2] i) body87_0 (hn871 s n c i i1 p y b1 o1 b2 o2 H J) (frS 67 [(0, (rS s n c)), (2, (sB false)), (10, (rS s n c)), (11, (sI (n : Int))), (12, (sI i))]) [.seg H, .seg J] =
(.br (decide (i < (n : Int)))
 (.claim (opA (Plain.env [] (gE 0)) (.iadr 7 none (.const (.slice s n c)) (kI i)) [] [] = some ((.pointer (some ⟨b1, o1, none⟩)), []))
 (.claim (opA (Plain.env [] (gE 0)) (.load (.const (.pointer (some ⟨b1, o1, none⟩))) (some 7)) [] H = some ((.agg ⟨[(.int .i64 y.a), (.int .i64 y.b), (.int .i64 y.c), (.int .i64 y.d), (.int .i64 y.e), (.int .i64 y.f), (.bool y.g)]⟩), H))
 (.req true (.br (decide (y.a < 1))
 (.ret .ret (frS 67 [(0, (rS s n c)), (2, (sB false)), (10, (rS s n c)), (11, (sI (n : Int))), (12, (sI i))]) [.seg H, .seg J, .blk .fix [(sI y.a), (sI y.b), (sI y.c), (sI y.d), (sI y.e), (sI y.f), (sB y.g)]])
 (.req (decide (i > 0)) (.claim (opA (Plain.env [] (gE 0)) (.bin .sub (kI i) (kI 1)) [] [] = some ((.int .i64 i1), []))
 (.claim (opA (Plain.env [] (gE 0)) (.iadr 7 none (.const (.slice s n c)) (kI i1)) [] [] = some ((.pointer (some ⟨b2, o2, none⟩)), []))
 (.claim (opA (Plain.env [] (gE 0)) (.load (.const (.pointer (some ⟨b2, o2, none⟩))) none) [] H = some ((.int .i64 p), H))
 (.req (bif (decide (p ≥ y.a)) then true else true) (.req (bif (bif (decide (p ≥ y.a)) then true else (decide (y.f < 0))) then true else true) (.br (bif (bif (decide (p ≥ y.a)) then true else (decide (y.f < 0))) then true else (decide (y.f > 12)))
 (.ret .ret (frS 67 [(0, (rS s n c)), (2, (sB false)), (10, (rS s n c)), (11, (sI (n : Int))), (12, (sI i))]) [.seg H, .seg J, .blk .fix [(sI y.a), (sI y.b), (sI y.c), (sI y.d), (sI y.e), (sI y.f), (sB y.g)]])
 (.req (bif (decide (y.b < 0)) then true else true) (.br (bif (decide (y.b < 0)) then true else (decide (y.b > 1099511627776)))
 (.ret .ret (frS 67 [(0, (rS s n c)), (2, (sB false)), (10, (rS s n c)), (11, (sI (n : Int))), (12, (sI i))]) [.seg H, .seg J, .blk .fix [(sI y.a), (sI y.b), (sI y.c), (sI y.d), (sI y.e), (sI y.f), (sB y.g)], .blk .fix [(sI y.b), (sI y.c), (sI y.d), (sI y.e)]])
 (.req (bif (decide (y.c < 0)) then true else true) (.br (bif (decide (y.c < 0)) then true else (decide (y.c > 1099511627776)))
 (.ret .ret (frS 67 [(0, (rS s n c)), (2, (sB false)), (10, (rS s n c)), (11, (sI (n : Int))), (12, (sI i))]) [.seg H, .seg J, .blk .fix [(sI y.a), (sI y.b), (sI y.c), (sI y.d), (sI y.e), (sI y.f), (sB y.g)], .blk .fix [(sI y.b), (sI y.c), (sI y.d), (sI y.e)]])
 (.req (bif (decide (y.d < 0)) then true else true) (.br (bif (decide (y.d < 0)) then true else (decide (y.d > 1099511627776)))
 (.ret .ret (frS 67 [(0, (rS s n c)), (2, (sB false)), (10, (rS s n c)), (11, (sI (n : Int))), (12, (sI i))]) [.seg H, .seg J, .blk .fix [(sI y.a), (sI y.b), (sI y.c), (sI y.d), (sI y.e), (sI y.f), (sB y.g)], .blk .fix [(sI y.b), (sI y.c), (sI y.d), (sI y.e)]])
 (.req (bif (decide (y.e < 0)) then true else true) (.br (bif (decide (y.e < 0)) then true else (decide (y.e > 1099511627776)))
 (.ret .ret (frS 67 [(0, (rS s n c)), (2, (sB false)), (10, (rS s n c)), (11, (sI (n : Int))), (12, (sI i))]) [.seg H, .seg J, .blk .fix [(sI y.a), (sI y.b), (sI y.c), (sI y.d), (sI y.e), (sI y.f), (sB y.g)], .blk .fix [(sI y.b), (sI y.c), (sI y.d), (sI y.e)]])
 (.ret .normal (frS 67 [(0, (rS s n c)), (2, (sB false)), (10, (rS s n c)), (11, (sI (n : Int))), (12, (sI (IntKind.wrap .i64 (i + 1))))]) [.seg H, .seg J, .blk .fix [(sI y.a), (sI y.b), (sI y.c), (sI y.d), (sI y.e), (sI y.f), (sB y.g)], .blk .fix [(sI y.b), (sI y.c), (sI y.d), (sI y.e)]]))))))))))))))))))))
 (.ret (.exit 0) (frS 67 [(0, (rS s n c)), (2, (sB false)), (10, (rS s n c)), (11, (sI (n : Int))), (12, (sI i))]) [.seg H, .seg J])) := by kernel_rfl
def hn87w (s : Option Addr) (n c : Nat) (q : Bool) (H Y : Heap) : Hs := (.no (.lp2 0 [2] q (frS 67 [(2, (sB false))]) ⟨[], [.seg Y]⟩ (frS 67 [(2, (sB false))]) ⟨[], [.seg Y]⟩ .nil .nil))
theorem tree87w (s : Option Addr) (n c : Nat) (q : Bool) (H Y : Heap) : fnS [] (gE 0) (cE 0) 100 il87 (hn87w s n c q H Y) [(rS s n c)] [.seg H] =
(.req (!(decide ((n : Int) > 64))) (.claim (Wp (Plain.env [] (gE 0)) (inL [2]) (.block 0 (.loop body87_0)) (denF [.seg H] (frS 67 [(0, (rS s n c)), (2, (sB false)), (10, (rS s n c)), (11, (sI (n : Int))), (12, (sI 0))])) (denH [.seg H]) fun e_ s_ h_ => if q then e_ = .normal ∧ s_ = denF [.seg H, .seg Y] (frS 67 [(2, (sB false))]) ∧ h_ = denH [.seg H, .seg Y] else e_ = .ret ∧ s_ = denF [.seg H, .seg Y] (frS 67 [(2, (sB false))]) ∧ h_ = denH [.seg H, .seg Y])
 (.br q
 (.ret .ret [(sB true)] [.seg H, .seg Y])
 (.ret .ret [(sB false)] [.seg H, .seg Y])))) := by kernel_rfl
def hn87g (s : Option Addr) (n c : Nat) (H : Heap) : Hs := (.yes .nil)
theorem tree87g (s : Option Addr) (n c : Nat) (H : Heap) : fnS [] (gE 0) (cE 0) 100 il87 (hn87g s n c H) [(rS s n c)] [.seg H] =
(.req (decide ((n : Int) > 64)) (.ret .ret [(sB false)] [.seg H])) := by kernel_rfl
theorem loop {H : Heap} {s : Option Addr} {c : Nat} {l : List R7} (hs : RowsW 7 H (.slice s l.length c) (l.map e7)) (hn : l.length ≤ 64) :
  Wp (Plain.env [] (gE 0)) (inL [2]) (.block 0 (.loop body87_0)) (denF [.seg H] (frS 67 [(0, (rS s l.length c)), (2, (sB false)), (10, (rS s l.length c)), (11, (sI (l.length : Int))), (12, (sI 0))])) (denH [.seg H]) fun e t h => ∃ Y, h = denH [.seg H, .seg Y] ∧ t = denF [.seg H, .seg Y] (frS 67 [(2, (sB false))]) ∧ if TP.rtF 0 l then e = .normal else e = .ret := by
 refine Wp.bl (fun m t h => ∃ (i : Nat) (last : Int) (J : Heap), i + m = l.length ∧ 0 ≤ last ∧ (i = 0 → last = 0) ∧ (0 < i → ∃ x, l[i - 1]? = some x ∧ x.a = last ∧ 1 ≤ last) ∧ t = denF [.seg H, .seg J] (frS 67 [(0, (rS s l.length c)), (2, (sB false)), (10, (rS s l.length c)), (11, (sI (l.length : Int))), (12, (sI i))]) ∧ h = denH [.seg H, .seg J] ∧ TP.rtF 0 l = TP.rtF last (l.drop i)) ?_ l.length _ _ ⟨0, 0, [], by omega, by omega, fun _ => rfl, fun q => by omega, by show denF _ _ = denF _ _; kernel_rfl, by simp [denH, denL, It.den], rfl⟩
 rintro m t h ⟨i, last, J, hi, hl0, hz, hp, rfl, rfl, hr⟩
 by_cases hlt : i < l.length
 ·obtain ⟨y, hy⟩ := getE hlt
  obtain ⟨b1, o1, r1⟩ := hs.rowM hy
  have hd : l.drop i = y :: l.drop (i + 1) := by
   rw [List.drop_eq_getElem_cons hlt]
   rw [List.getElem?_eq_getElem hlt] at hy
   cases hy; rfl
  rw [hd] at hr
  have bad : (y.a ≤ last ∨ TP.lineB y = false) → TP.rtF 0 l = false := fun q => by
   rw [hr]; unfold TP.rtF
   split
   ·rfl
   ·rename_i h1
    rcases q with q | q
    ·exact absurd q h1
    ·rw [q]; rfl
  have good : last < y.a → TP.lineB y = true → TP.rtF 0 l = TP.rtF y.a (l.drop (i + 1)) := fun h1 h2 => by
   rw [hr]
   conv => lhs; unfold TP.rtF
   rw [if_neg (by omega), h2, if_pos rfl]
  have nl : ¬ ((0 ≤ y.b ∧ y.b ≤ 1099511627776) ∧ (0 ≤ y.c ∧ y.c ≤ 1099511627776) ∧ (0 ≤ y.d ∧ y.d ≤ 1099511627776) ∧ (0 ≤ y.e ∧ y.e ≤ 1099511627776) ∧ 0 ≤ y.f ∧ y.f ≤ 12) → TP.lineB y = false := fun q => Bool.eq_false_iff.2 fun z => q (TP.lineB_iff.1 z)
  by_cases h0 : i = 0
  ·have hl00 := hz h0
   have tr := tree870 s l.length c i 0 0 y b1 o1 0 0 H J
   exact Wp.tree (cE_ok 0) tr ⟨by kernel_rfl, by kernel_rfl⟩ ⟨fun _ => ⟨r1.ptr _ _, r1.all _, rfl, fun hA => end_ret ⟨J ++ [some ⟨.fix, e7 y⟩], by simp [denH, denL, It.den, den0, e7], by show denF _ _ = denF _ _; kernel_rfl, by rw [bad (.inl (by simp at hA; omega))]; simp⟩, fun hA => ⟨by simp [h0], bif_tt _, fun hF => end_ret ⟨J ++ [some ⟨.fix, e7 y⟩], by simp [denH, denL, It.den, den0, e7], by show denF _ _ = denF _ _; kernel_rfl, by rw [bad (.inr (nl (by rw [bif_t] at hF; simp at hF; omega)))]; simp⟩, fun hF => ⟨bif_tt _, fun hb => end_ret ⟨J ++ [some ⟨.fix, e7 y⟩, some ⟨.fix, [.int .i64 y.b, .int .i64 y.c, .int .i64 y.d, .int .i64 y.e]⟩], by simp [denH, denL, It.den, den0, e7], by show denF _ _ = denF _ _; kernel_rfl, by rw [bad (.inr (nl (by rw [bif_t] at hb; simp at hb; omega)))]; simp⟩, fun hb => ⟨bif_tt _, fun hc => end_ret ⟨J ++ [some ⟨.fix, e7 y⟩, some ⟨.fix, [.int .i64 y.b, .int .i64 y.c, .int .i64 y.d, .int .i64 y.e]⟩], by simp [denH, denL, It.den, den0, e7], by show denF _ _ = denF _ _; kernel_rfl, by rw [bad (.inr (nl (by rw [bif_t] at hc; simp at hc; omega)))]; simp⟩, fun hc => ⟨bif_tt _, fun hd => end_ret ⟨J ++ [some ⟨.fix, e7 y⟩, some ⟨.fix, [.int .i64 y.b, .int .i64 y.c, .int .i64 y.d, .int .i64 y.e]⟩], by simp [denH, denL, It.den, den0, e7], by show denF _ _ = denF _ _; kernel_rfl, by rw [bad (.inr (nl (by rw [bif_t] at hd; simp at hd; omega)))]; simp⟩, fun hd => ⟨bif_tt _, fun he => end_ret ⟨J ++ [some ⟨.fix, e7 y⟩, some ⟨.fix, [.int .i64 y.b, .int .i64 y.c, .int .i64 y.d, .int .i64 y.e]⟩], by simp [denH, denL, It.den, den0, e7], by show denF _ _ = denF _ _; kernel_rfl, by rw [bad (.inr (nl (by rw [bif_t] at he; simp at he; omega)))]; simp⟩, fun he => end_next (m - 1) (by omega) ⟨i + 1, y.a, J ++ [some ⟨.fix, e7 y⟩, some ⟨.fix, [.int .i64 y.b, .int .i64 y.c, .int .i64 y.d, .int .i64 y.e]⟩], by omega, by simp at hA; omega, fun q => by omega, fun _ => ⟨y, by simpa using hy, rfl, by simp at hA; omega⟩, by rw [wrap64 (x := (i : Int) + 1) (by omega) (by omega)]; show denF _ _ = denF _ _; kernel_rfl, by simp [denH, denL, It.den, den0, e7], good (by simp at hA; omega) (TP.lineB_iff.2 (by rw [bif_f] at hb hc hd he; rw [bif_f] at hF; simp at hb hc hd he hF; omega))⟩⟩⟩⟩⟩⟩⟩, fun q => by simp at q; omega⟩
  ·obtain ⟨x, hx, hxa, hl1⟩ := hp (by omega)
   obtain ⟨b2, o2, r2⟩ := hs.rowM hx
   have ei : (((i - 1 : Nat)) : Int) = (i : Int) - 1 := by omega
   rw [ei] at r2
   have bad3 : (bif (bif decide (x.a ≥ y.a) then true else decide (y.f < 0)) then true else decide (y.f > 12)) = true → (y.a ≤ last ∨ TP.lineB y = false) := fun hF => by
    rw [bif_t, bif_t] at hF
    rcases hF with (hF | hF) | hF
    ·exact .inl (by simp at hF; omega)
    ·exact .inr (nl (by simp at hF; omega))
    ·exact .inr (nl (by simp at hF; omega))
   have tr := tree871 s l.length c i ((i : Int) - 1) x.a y b1 o1 b2 o2 H J
   exact Wp.tree (cE_ok 0) tr ⟨by kernel_rfl, by kernel_rfl⟩ ⟨fun _ => ⟨r1.ptr _ _, r1.all _, rfl, fun hA => end_ret ⟨J ++ [some ⟨.fix, e7 y⟩], by simp [denH, denL, It.den, den0, e7], by show denF _ _ = denF _ _; kernel_rfl, by rw [bad (.inl (by simp at hA; omega))]; simp⟩, fun hA => ⟨by simp; omega, O.sub_ok _ _ _ _ (by rw [wrap64 (by omega) (by omega)]), r2.ptr _ _, r2.fld _ 0 _ rfl, bif_tt _, bif_tt _, fun hF => end_ret ⟨J ++ [some ⟨.fix, e7 y⟩], by simp [denH, denL, It.den, den0, e7], by show denF _ _ = denF _ _; kernel_rfl, by rw [bad (bad3 hF)]; simp⟩, fun hF => ⟨bif_tt _, fun hb => end_ret ⟨J ++ [some ⟨.fix, e7 y⟩, some ⟨.fix, [.int .i64 y.b, .int .i64 y.c, .int .i64 y.d, .int .i64 y.e]⟩], by simp [denH, denL, It.den, den0, e7], by show denF _ _ = denF _ _; kernel_rfl, by rw [bad (.inr (nl (by rw [bif_t] at hb; simp at hb; omega)))]; simp⟩, fun hb => ⟨bif_tt _, fun hc => end_ret ⟨J ++ [some ⟨.fix, e7 y⟩, some ⟨.fix, [.int .i64 y.b, .int .i64 y.c, .int .i64 y.d, .int .i64 y.e]⟩], by simp [denH, denL, It.den, den0, e7], by show denF _ _ = denF _ _; kernel_rfl, by rw [bad (.inr (nl (by rw [bif_t] at hc; simp at hc; omega)))]; simp⟩, fun hc => ⟨bif_tt _, fun hd => end_ret ⟨J ++ [some ⟨.fix, e7 y⟩, some ⟨.fix, [.int .i64 y.b, .int .i64 y.c, .int .i64 y.d, .int .i64 y.e]⟩], by simp [denH, denL, It.den, den0, e7], by show denF _ _ = denF _ _; kernel_rfl, by rw [bad (.inr (nl (by rw [bif_t] at hd; simp at hd; omega)))]; simp⟩, fun hd => ⟨bif_tt _, fun he => end_ret ⟨J ++ [some ⟨.fix, e7 y⟩, some ⟨.fix, [.int .i64 y.b, .int .i64 y.c, .int .i64 y.d, .int .i64 y.e]⟩], by simp [denH, denL, It.den, den0, e7], by show denF _ _ = denF _ _; kernel_rfl, by rw [bad (.inr (nl (by rw [bif_t] at he; simp at he; omega)))]; simp⟩, fun he => end_next (m - 1) (by omega) ⟨i + 1, y.a, J ++ [some ⟨.fix, e7 y⟩, some ⟨.fix, [.int .i64 y.b, .int .i64 y.c, .int .i64 y.d, .int .i64 y.e]⟩], by omega, by simp at hA; omega, fun q => by omega, fun _ => ⟨y, by simpa using hy, rfl, by simp at hA; omega⟩, by rw [wrap64 (x := (i : Int) + 1) (by omega) (by omega)]; show denF _ _ = denF _ _; kernel_rfl, by simp [denH, denL, It.den, den0, e7], good (by rw [bif_f, bif_f] at hF; simp at hF; omega) (TP.lineB_iff.2 (by rw [bif_f] at hb hc hd he; rw [bif_f, bif_f] at hF; simp at hb hc hd he hF; omega))⟩⟩⟩⟩⟩⟩⟩, fun q => by simp at q; omega⟩
 ·have hil : i = l.length := by omega
  have tr := tree870 s l.length c i 0 0 ⟨0, 0, 0, 0, 0, 0, false⟩ 0 0 0 0 H J
  refine Wp.tree (cE_ok 0) tr ⟨by kernel_rfl, by kernel_rfl⟩ ⟨fun q => by simp at q; omega, fun _ => end_exit ⟨J, rfl, by show denF _ _ = denF _ _; kernel_rfl, ?_⟩⟩
  rw [hr, hil, List.drop_length]
  rfl
theorem sim {H : Heap} {s : Value} {l : List R7} (hs : RowsW 7 H s (l.map e7)) (hn : l.length ≤ 140737488355328) : Sim Try.prog 87 [s] H fun v h' => v = .bool (TP.tapeB l) ∧ h' = H := by
 obtain ⟨sa, sc, rfl⟩ := hs.slcM
 refine (Sim.plain (R := fun v => v = .bool (TP.tapeB l)) ?_ (fun v hv => by subst hv; rfl)).mono fun v h' q => q
 by_cases hg : 64 < l.length
 ·have hd : TP.tapeB l = false := by unfold TP.tapeB; rw [if_pos hg]
  have := fnS_tree (Q := fun v h' => v = .bool (TP.tapeB l) ∧ ∃ X, h' = H ++ X) mixed (gE_ok 0) (gE_q 0) (cE_ok 0) st87 (tree87g sa l.length sc H) ⟨rfl, rfl⟩ ⟨by simp; omega, by rw [hd]; rfl, [], by simp [denH, denL, It.den]⟩
  simpa [denH, denL, It.den, denF, denV, denA, den0] using this
 ·have hd : TP.tapeB l = TP.rtF 0 l := by unfold TP.tapeB; rw [if_neg hg]
  obtain ⟨e, t1, h1, ⟨Y, rfl, rfl, he⟩, w⟩ := (loop hs (by omega)).exact
  have := fnS_tree (Q := fun v h' => v = .bool (TP.tapeB l) ∧ ∃ X, h' = H ++ X) mixed (gE_ok 0) (gE_q 0) (cE_ok 0) st87 (tree87w sa l.length sc (TP.rtF 0 l) H Y) ⟨rfl, rfl⟩ ⟨by simp; omega, w.mono fun e1 s1 h1 ⟨q1, q2, q3⟩ => by
    subst q1
    split
    ·rename_i hq; rw [hq] at he; exact ⟨he, q2, q3⟩
    ·rename_i hq; rw [if_neg hq] at he; exact ⟨he, q2, q3⟩, fun q => ⟨by rw [hd, q]; rfl, Y, by simp [denH, denL, It.den]⟩, fun q => ⟨by rw [hd, q]; rfl, Y, by simp [denH, denL, It.den]⟩⟩
  simpa [denH, denL, It.den, denF, denV, denA, den0] using this
def pre (l : List R7) (args : List Value) (h : Heap) : Prop := ∃ s, args = [s] ∧ RowsW 7 h s (l.map e7) ∧ l.length ≤ 140737488355328
def res (l : List R7) (h : Heap) : Value × Heap := (.bool (TP.tapeB l), h)
theorem summ : Summ Try.prog 87 (smry pre res) := smry_ok fun l args h ⟨s, e, hs, hn⟩ => by subst e; exact sim hs hn
theorem call {h : Heap} {s : Value} {l : List R7} (hs : RowsW 7 h s (l.map e7)) (hn : l.length ≤ 140737488355328) : smry pre res [s] h = some (.bool (TP.tapeB l), h) :=
 smry_some ⟨s, rfl, hs, hn⟩ fun y ⟨s', e, hs', _⟩ => by
  simp only [List.cons.injEq, and_true] at e
  subst e
  unfold res
  rw [map_inj e7_1 (hs.uniq hs')]
end T
end PR
end Go.Proofs.Ytgdojnamjkhknaa
