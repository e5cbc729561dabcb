/-
  deal: the numbers of a deal; what it is together; is it right?
-/
import Derived.Test.YtgdojnamjkhknaaQdD4
namespace Go.Proofs.Ytgdojnamjkhknaa
open Go.Am
set_option linter.all false
set_option maxRecDepth 100000
namespace D
abbrev xd (al an a0 a1 a2 : Option Addr) (nl cl nn cn n0 c0 n1 c1 n2 c2 : Nat) (y mo ba fe re ta ad cu oc ic la lo ce : Int) : List SV := [sI y, sI mo, sI ba, rS al nl cl, rS an nn cn, sI fe, sI re, sI ta, sI ad, sI cu, sI oc, sI ic, sI la, sI lo, sI ce, rS a0 n0 c0, rS a1 n1 c1, rS a2 n2 c2]
open A (tupIB pre1 pre1_u anyL lnF lnG)
structure DV where
 (y mo ba fe re ta ad cu oc ic la lo ce : Int) (l : List R2) (n : List R3) (s0 s1 s2 : List R2)
def dVal (al an a0 a1 a2 : Option Addr) (nl cl nn cn n0 c0 n1 c1 n2 c2 : Nat) (d : DV) : Value := .agg ⟨[.int .i64 d.y, .int .i64 d.mo, .int .i64 d.ba, .slice al nl cl, .slice an nn cn, .int .i64 d.fe, .int .i64 d.re, .int .i64 d.ta, .int .i64 d.ad, .int .i64 d.cu, .int .i64 d.oc, .int .i64 d.ic, .int .i64 d.la, .int .i64 d.lo, .int .i64 d.ce, .slice a0 n0 c0, .slice a1 n1 c1, .slice a2 n2 c2]⟩
def DlW (H : Heap) (v : Value) (d : DV) : Prop := ∃ al an a0 a1 a2 cl cn c0 c1 c2, v = dVal al an a0 a1 a2 d.l.length cl d.n.length cn d.s0.length c0 d.s1.length c1 d.s2.length c2 d ∧
 RowsW 2 H (.slice al d.l.length cl) (d.l.map e2) ∧ RowsW 3 H (.slice an d.n.length cn) (d.n.map e3) ∧ RowsW 2 H (.slice a0 d.s0.length c0) (d.s0.map e2) ∧ RowsW 2 H (.slice a1 d.s1.length c1) (d.s1.map e2) ∧ RowsW 2 H (.slice a2 d.s2.length c2) (d.s2.map e2)
theorem DlW.uniq {H : Heap} {v : Value} {a b : DV} (h : DlW H v a) (k : DlW H v b) : a = b := by
 obtain ⟨al, an, a0, a1, a2, cl, cn, c0, c1, c2, rfl, h1, h2, h3, h4, h5⟩ := h
 obtain ⟨bl, bn, b0, b1, b2, dl, dn, d0, d1, d2, e, k1, k2, k3, k4, k5⟩ := k
 obtain ⟨y, mo, ba, fe, re, ta, ad, cu, oc, ic, la, lo, ce, l, n, s0, s1, s2⟩ := a
 obtain ⟨y', mo', ba', fe', re', ta', ad', cu', oc', ic', la', lo', ce', l', n', s0', s1', s2'⟩ := b
 simp only [dVal, Value.agg.injEq, Array.mk.injEq, List.cons.injEq, Value.int.injEq, Value.slice.injEq, true_and, and_true] at e
 obtain ⟨rfl, rfl, rfl, ⟨rfl, el, rfl⟩, ⟨rfl, en, rfl⟩, rfl, rfl, rfl, rfl, rfl, rfl, rfl, rfl, rfl, rfl, ⟨rfl, e0, rfl⟩, ⟨rfl, e1, rfl⟩, ⟨rfl, ee2, rfl⟩⟩ := e
 simp only at el en e0 e1 ee2 h1 h2 h3 h4 h5 k1 k2 k3 k4 k5
 rw [← el] at k1; rw [← en] at k2; rw [← e0] at k3; rw [← e1] at k4; rw [← ee2] at k5
 rw [map_inj e2_1 (h1.uniq k1), map_inj e3_1 (h2.uniq k2), map_inj e2_1 (h3.uniq k3), map_inj e2_1 (h4.uniq k4), map_inj e2_1 (h5.uniq k5)]
def DV.sm (d : DV) : Prop := anyL d.l ∧ anyL d.n ∧ anyL d.s0 ∧ anyL d.s1 ∧ anyL d.s2
def preD (d : DV) (args : List Value) (h : Heap) : Prop := ∃ v, args = [v] ∧ DlW h v d ∧ d.sm
theorem preD_u {F : DV → Heap → Value × Heap} {d : DV} {args : List Value} {h : Heap} (a : preD d args h) : smry preD F args h = some (F d h) :=
 smry_some a fun y ⟨v', e', hs', _⟩ => by
  obtain ⟨v, e, hs, _⟩ := a
  subst e
  simp only [List.cons.injEq, and_true] at e'
  subst e'
  rw [hs'.uniq hs]
theorem up1 {w : Nat} {H : Heap} {v : Value} {rows : List (List Value)} (h : RowsW w H v rows) (X : SH) : RowsW w (denH (.seg H :: X)) v rows :=
 (show RowsW w (denH [.seg H]) v rows by simpa [denH, denL, It.den] using h).up (X := X) rfl
def trmB (d : DV) : Bool := wB d.oc 0 100000 && wB d.ic 0 100000 && wB d.la 0 100000 && wB d.lo 0 100000 && wB d.ce 0 100000 && (wB d.y 1 9000 && wB d.mo 1 12 && wB d.ba 0 2 && wB d.fe 0 5000 && wB d.re 0 1099511627776 && wB d.ta 0 10000 && wB d.ad 0 1099511627776 && wB d.cu 0 600)
namespace T
open A (gE cE gE_ok gE_q cE_ok)
def il96 : FnIL := ⟨68, [.tmp 2], .seq (.reg [ oT 1 (.box (.tmp 0)), oT 2 (.mov (.const (.bool false)))]) (.seq (.seq (.reg [ oT 5 (.fadr 10 (.tmp 1)), oT 6 (.fadr 0 (.tmp 5)), oT 7 (.load (.tmp 6) none), oT 8 (.fadr 10 (.tmp 1)), oT 9 (.fadr 1 (.tmp 8)), oT 10 (.load (.tmp 9) none), oT 11 (.fadr 10 (.tmp 1)), oT 12 (.fadr 2 (.tmp 11)), oT 13 (.load (.tmp 12) none), oT 14 (.fadr 10 (.tmp 1)), oT 15 (.fadr 3 (.tmp 14)), oT 16 (.load (.tmp 15) none), oT 17 (.fadr 10 (.tmp 1)), oT 18 (.fadr 4 (.tmp 17)), oT 19 (.load (.tmp 18) none), oT 20 (.mkrow [(.int .i64 0), (.int .i64 0), (.int .i64 0), (.int .i64 0), (.int .i64 0)] 5 [(0, 1, (.tmp 7)), (1, 1, (.tmp 10)), (2, 1, (.tmp 13)), (3, 1, (.tmp 16)), (4, 1, (.tmp 19))]), oT 21 (.len (.tmp 20)), oT 22 (.mov (kI 0))]) (.block 0 (.loop (.seq (.reg [ oT 23 (.bin .lss (.tmp 22) (.tmp 21))]) (.seq (.ite (.tmp 23) (.skip) (.exit 0)) (.seq (.block 1 (.seq (.reg [ oT 24 (.iadr 1 none (.tmp 20) (.tmp 22)), oT 25 (.load (.tmp 24) none), oT 4 (.mov (.tmp 25))]) (.seq (.reg [ oT 26 (.mov (.tmp 4)), oT 27 (.call 74 [(.tmp 26), (kI 0), (kI 100000)]), oT 28 (.un .not (.tmp 27))]) (.ite (.tmp 28) (.seq (.reg [ oT 2 (.mov (.const (.bool false)))]) (.ret)) (.skip))))) (.reg [ oT 29 (.bin .add (.tmp 22) (kI 1)), oT 22 (.mov (.tmp 29))]))))))) (.seq (.reg [ oT 30 (.fadr 0 (.tmp 1)), oT 31 (.load (.tmp 30) none), oT 32 (.call 74 [(.tmp 31), (kI 1), (kI 9000)]), oT 33 (.mov (.tmp 32)), ⟨(some 34), (some (33, true)), .fadr 1 (.tmp 1)⟩, ⟨(some 35), (some (33, true)), .load (.tmp 34) none⟩, ⟨(some 36), (some (33, true)), .call 74 [(.tmp 35), (kI 1), (kI 12)]⟩, oT 37 (.pick (.tmp 33) (.tmp 36) (.const (.bool false))), oT 38 (.mov (.tmp 37)), ⟨(some 39), (some (38, true)), .fadr 2 (.tmp 1)⟩, ⟨(some 40), (some (38, true)), .load (.tmp 39) none⟩, ⟨(some 41), (some (38, true)), .call 74 [(.tmp 40), (kI 0), (kI 2)]⟩, oT 42 (.pick (.tmp 38) (.tmp 41) (.const (.bool false))), oT 43 (.mov (.tmp 42)), ⟨(some 44), (some (43, true)), .fadr 5 (.tmp 1)⟩, ⟨(some 45), (some (43, true)), .load (.tmp 44) none⟩, ⟨(some 46), (some (43, true)), .call 74 [(.tmp 45), (kI 0), (kI 5000)]⟩, oT 47 (.pick (.tmp 43) (.tmp 46) (.const (.bool false))), oT 48 (.mov (.tmp 47)), ⟨(some 49), (some (48, true)), .fadr 6 (.tmp 1)⟩, ⟨(some 50), (some (48, true)), .load (.tmp 49) none⟩, ⟨(some 51), (some (48, true)), .call 74 [(.tmp 50), (kI 0), (kI 1099511627776)]⟩, oT 52 (.pick (.tmp 48) (.tmp 51) (.const (.bool false))), oT 53 (.mov (.tmp 52)), ⟨(some 54), (some (53, true)), .fadr 7 (.tmp 1)⟩, ⟨(some 55), (some (53, true)), .load (.tmp 54) none⟩, ⟨(some 56), (some (53, true)), .call 74 [(.tmp 55), (kI 0), (kI 10000)]⟩, oT 57 (.pick (.tmp 53) (.tmp 56) (.const (.bool false))), oT 58 (.mov (.tmp 57)), ⟨(some 59), (some (58, true)), .fadr 8 (.tmp 1)⟩, ⟨(some 60), (some (58, true)), .load (.tmp 59) none⟩, ⟨(some 61), (some (58, true)), .call 74 [(.tmp 60), (kI 0), (kI 1099511627776)]⟩, oT 62 (.pick (.tmp 58) (.tmp 61) (.const (.bool false))), oT 63 (.mov (.tmp 62)), ⟨(some 64), (some (63, true)), .fadr 9 (.tmp 1)⟩, ⟨(some 65), (some (63, true)), .load (.tmp 64) none⟩, ⟨(some 66), (some (63, true)), .call 74 [(.tmp 65), (kI 0), (kI 600)]⟩, oT 67 (.pick (.tmp 63) (.tmp 66) (.const (.bool false))), oT 2 (.mov (.tmp 67))]) (.ret)))⟩
theorem st96 : stF Try.prog qt 96 = some il96 := by kernel_rfl
theorem tree96 (al an a0 a1 a2 : Option Addr) (nl cl nn cn n0 c0 n1 c1 n2 c2 : Nat) (y mo ba fe re ta ad cu oc ic la lo ce : Int) (H : Heap) : (fun (Z0 : SH) => fnS tblD (gE 0) (cE 0) 200 il96 (.con (.sym .nil (.con (.sym .nil (.con (.sym .nil (.con (.sym .nil (.con (.sym .nil (.con (.join 4 (.con (.con (.con (.con .nil)))) (.con (.con (.con (.con .nil)))) (.join 4 (.con (.con (.con (.con .nil)))) (.con (.con (.con (.con .nil)))) (.join 4 (.con (.con (.con (.con .nil)))) (.con (.con (.con (.con .nil)))) (.join 4 (.con (.con (.con (.con .nil)))) (.con (.con (.con (.con .nil)))) (.join 4 (.con (.con (.con (.con .nil)))) (.con (.con (.con (.con .nil)))) (.join 4 (.con (.con (.con (.con .nil)))) (.con (.con (.con (.con .nil)))) (.join 4 (.con (.con (.con (.con .nil)))) (.con (.con (.con (.con .nil)))) .nil)))))))))))))))))) [(.raw (.agg ⟨[(.int .i64 y), (.int .i64 mo), (.int .i64 ba), (.slice al nl cl), (.slice an nn cn), (.int .i64 fe), (.int .i64 re), (.int .i64 ta), (.int .i64 ad), (.int .i64 cu), (.int .i64 oc), (.int .i64 ic), (.int .i64 la), (.int .i64 lo), (.int .i64 ce), (.slice a0 n0 c0), (.slice a1 n1 c1), (.slice a2 n2 c2)]⟩))] [.seg H] =
(.req true (.br (!(wB oc 0 100000))
 (.ret .ret [(sB false)] Z0)
 (.req true (.br (!(wB ic 0 100000))
 (.ret .ret [(sB false)] Z0)
 (.req true (.br (!(wB la 0 100000))
 (.ret .ret [(sB false)] Z0)
 (.req true (.br (!(wB lo 0 100000))
 (.ret .ret [(sB false)] Z0)
 (.req true (.br (!(wB ce 0 100000))
 (.ret .ret [(sB false)] Z0)
 (.req true (.req (bif (wB y 1 9000) then true else true) (.req (bif (bif (wB y 1 9000) then (wB mo 1 12) else false) then true else true) (.req (bif (bif (bif (wB y 1 9000) then (wB mo 1 12) else false) then (wB ba 0 2) else false) then true else true) (.req (bif (bif (bif (bif (wB y 1 9000) then (wB mo 1 12) else false) then (wB ba 0 2) else false) then (wB fe 0 5000) else false) then true else true) (.req (bif (bif (bif (bif (bif (wB y 1 9000) then (wB mo 1 12) else false) then (wB ba 0 2) else false) then (wB fe 0 5000) else false) then (wB re 0 1099511627776) else false) then true else true) (.req (bif (bif (bif (bif (bif (bif (wB y 1 9000) then (wB mo 1 12) else false) then (wB ba 0 2) else false) then (wB fe 0 5000) else false) then (wB re 0 1099511627776) else false) then (wB ta 0 10000) else false) then true else true) (.req (bif (bif (bif (bif (bif (bif (bif (wB y 1 9000) then (wB mo 1 12) else false) then (wB ba 0 2) else false) then (wB fe 0 5000) else false) then (wB re 0 1099511627776) else false) then (wB ta 0 10000) else false) then (wB ad 0 1099511627776) else false) then true else true) (.ret .ret [(sB (bif (bif (bif (bif (bif (bif (bif (wB y 1 9000) then (wB mo 1 12) else false) then (wB ba 0 2) else false) then (wB fe 0 5000) else false) then (wB re 0 1099511627776) else false) then (wB ta 0 10000) else false) then (wB ad 0 1099511627776) else false) then (wB cu 0 600) else false))] Z0)))))))))))))))))))) [.seg H, .blk .fix (xd al an a0 a1 a2 nl cl nn cn n0 c0 n1 c1 n2 c2 y mo ba fe re ta ad cu oc ic la lo ce), .blk .fix [(sI oc), (sI ic), (sI la), (sI lo), (sI ce)]] := by show _ = _; kernel_rfl
def pre96 (x : DV × (Option Addr × Option Addr × Option Addr × Option Addr × Option Addr) × (Nat × Nat × Nat × Nat × Nat) × (Nat × Nat × Nat × Nat × Nat)) (args : List Value) (h : Heap) : Prop :=
 args = [dVal x.2.1.1 x.2.1.2.1 x.2.1.2.2.1 x.2.1.2.2.2.1 x.2.1.2.2.2.2 x.2.2.1.1 x.2.2.2.1 x.2.2.1.2.1 x.2.2.2.2.1 x.2.2.1.2.2.1 x.2.2.2.2.2.1 x.2.2.1.2.2.2.1 x.2.2.2.2.2.2.1 x.2.2.1.2.2.2.2 x.2.2.2.2.2.2.2 x.1]
theorem call96 {al an a0 a1 a2 : Option Addr} {nl cl nn cn n0 c0 n1 c1 n2 c2 : Nat} {d : DV} {h : Heap} : smry pre96 (fun x h => (.bool (trmB x.1), h)) [dVal al an a0 a1 a2 nl cl nn cn n0 c0 n1 c1 n2 c2 d] h = some (.bool (trmB d), h) :=
 smry_some (x := (d, (al, an, a0, a1, a2), (nl, nn, n0, n1, n2), (cl, cn, c0, c1, c2))) rfl fun y e => by
  obtain ⟨⟨y, mo, ba, fe, re, ta, ad, cu, oc, ic, la, lo, ce, l, n, s0, s1, s2⟩, _⟩ := y
  simp only [pre96, dVal, Value.agg.injEq, Array.mk.injEq, List.cons.injEq, Value.int.injEq, Value.slice.injEq, true_and, and_true] at e
  obtain ⟨q1, q2, q3, _, _, q4, q5, q6, q7, q8, q9, q10, q11, q12, q13, _⟩ := e
  simp only [trmB, q1, q2, q3, q4, q5, q6, q7, q8, q9, q10, q11, q12, q13]
theorem sim96 : Summ Try.prog 96 (smry pre96 fun x h => (.bool (trmB x.1), h)) := smry_ok fun z args H e => by
 obtain ⟨d, ⟨al, an, a0, a1, a2⟩, ⟨nl, nn, n0, n1, n2⟩, ⟨cl, cn, c0, c1, c2⟩⟩ := z
 simp only [pre96] at e
 subst e
 refine Sim.plain (R := fun v => v = .bool (trmB d)) ?_ (fun v hv => by subst hv; rfl)
 have := fnS_tree (Q := fun v h' => v = .bool (trmB d) ∧ ∃ X, h' = H ++ X) mixed (gE_ok 0) (gE_q 0) (cE_ok 0) st96 (tree96 al an a0 a1 a2 nl cl nn cn n0 c0 n1 c1 n2 c2 d.y d.mo d.ba d.fe d.re d.ta d.ad d.cu d.oc d.ic d.la d.lo d.ce H) ⟨rfl, rfl⟩ ⟨by simp, ⟨fun hb0 => ⟨by show Value.bool _ = Value.bool _; congr 1; simp_all [trmB, Bool.cond_eq_ite, Bool.and_assoc], _, by simp [denH, denL, It.den]; rfl⟩, fun hb0 => ⟨by simp, ⟨fun hb1 => ⟨by show Value.bool _ = Value.bool _; congr 1; simp_all [trmB, Bool.cond_eq_ite, Bool.and_assoc], _, by simp [denH, denL, It.den]; rfl⟩, fun hb1 => ⟨by simp, ⟨fun hb2 => ⟨by show Value.bool _ = Value.bool _; congr 1; simp_all [trmB, Bool.cond_eq_ite, Bool.and_assoc], _, by simp [denH, denL, It.den]; rfl⟩, fun hb2 => ⟨by simp, ⟨fun hb3 => ⟨by show Value.bool _ = Value.bool _; congr 1; simp_all [trmB, Bool.cond_eq_ite, Bool.and_assoc], _, by simp [denH, denL, It.den]; rfl⟩, fun hb3 => ⟨by simp, ⟨fun hb4 => ⟨by show Value.bool _ = Value.bool _; congr 1; simp_all [trmB, Bool.cond_eq_ite, Bool.and_assoc], _, by simp [denH, denL, It.den]; rfl⟩, fun hb4 => ⟨by simp, ⟨by simp, ⟨by simp, ⟨by simp, ⟨by simp, ⟨by simp, ⟨by simp, ⟨by simp, ⟨by show Value.bool _ = Value.bool _; congr 1; simp_all [trmB, Bool.cond_eq_ite, Bool.and_assoc], _, by simp [denH, denL, It.den]; rfl⟩⟩⟩⟩⟩⟩⟩⟩⟩⟩⟩⟩⟩⟩⟩⟩⟩⟩⟩
 simpa [dVal, denH, denL, It.den, denF, denV, denA, den0] using this
end T
theorem lnG_b : ∀ (l : List R2) (last all : Int), 0 ≤ all → all ≤ 1099511627776 → 0 ≤ (lnG last all l).1 ∧ (lnG last all l).1 ≤ 1099511627776
 | [], _, all, h0, h1 => ⟨h0, h1⟩
 | x :: r, last, all, h0, h1 => by
  simp only [lnG]
  split
  ·exact ⟨by decide, by decide⟩
  ·exact lnG_b r _ _ (by omega) (by omega)
theorem lnF_b (l : List R2) : 0 ≤ (lnF l).1 ∧ (lnF l).1 ≤ 1099511627776 := by
 unfold lnF
 split
 ·exact lnG_b l 0 0 (by decide) (by decide)
 ·exact ⟨by decide, by decide⟩
def rightB (d : DV) : Bool := (lnF d.l).2 && (ntF (lnF d.l).1 d.n).2 && trmB d && stpF d.s0 && stpF d.s1 && stpF d.s2
namespace U
def il73 : FnIL := ⟨46, [.tmp 2, .tmp 3, .tmp 4], .seq (.reg [ oT 1 (.box (.tmp 0)), oT 2 (.mov (kI 0)), oT 3 (.mov (kI 0)), oT 4 (.mov (.const (.bool false)))]) (.seq (.reg [ oT 12 (.fadr 3 (.tmp 1)), oT 13 (.load (.tmp 12) none), oT 14 (.call 94 [(.tmp 13)]), oT 11 (.mov (.tmp 14)), oT 15 (.ext 0 (.tmp 11)), oT 16 (.ext 1 (.tmp 11)), oT 5 (.mov (.tmp 15)), oT 6 (.mov (.tmp 16))]) (.seq (.reg [ oT 18 (.fadr 4 (.tmp 1)), oT 19 (.load (.tmp 18) none), oT 20 (.mov (.tmp 5)), oT 21 (.call 95 [(.tmp 19), (.tmp 20)]), oT 17 (.mov (.tmp 21)), oT 22 (.ext 0 (.tmp 17)), oT 23 (.ext 1 (.tmp 17)), oT 7 (.mov (.tmp 22)), oT 8 (.mov (.tmp 23))]) (.seq (.seq (.reg [ oT 24 (.mov (.tmp 6)), oT 25 (.un .not (.tmp 24)), oT 26 (.mov (.tmp 25)), ⟨(some 27), (some (26, false)), .mov (.tmp 8)⟩, ⟨(some 28), (some (26, false)), .un .not (.tmp 27)⟩, oT 29 (.pick (.tmp 26) (.const (.bool true)) (.tmp 28)), oT 30 (.mov (.tmp 29)), ⟨(some 31), (some (30, false)), .load (.tmp 1) (some 18)⟩, ⟨(some 32), (some (30, false)), .call 96 [(.tmp 31)]⟩, ⟨(some 33), (some (30, false)), .un .not (.tmp 32)⟩, oT 34 (.pick (.tmp 30) (.const (.bool true)) (.tmp 33))]) (.ite (.tmp 34) (.seq (.reg [ oT 2 (.mov (kI 0)), oT 3 (.mov (kI 0)), oT 4 (.mov (.const (.bool false)))]) (.ret)) (.skip))) (.seq (.seq (.reg [ oT 35 (.fadr 15 (.tmp 1)), oT 36 (.load (.tmp 35) (some 3)), oT 37 (.mov (kI 0))]) (.block 0 (.loop (.seq (.reg [ oT 38 (.bin .lss (.tmp 37) (kI 3))]) (.seq (.ite (.tmp 38) (.skip) (.exit 0)) (.seq (.block 1 (.seq (.reg [ oT 39 (.idx 1 3 none (.tmp 36) (.tmp 37)), oT 10 (.mov (.tmp 39))]) (.seq (.reg [ oT 40 (.mov (.tmp 10)), oT 41 (.call 40 [(.tmp 40)]), oT 42 (.un .not (.tmp 41))]) (.ite (.tmp 42) (.seq (.reg [ oT 2 (.mov (kI 0)), oT 3 (.mov (kI 0)), oT 4 (.mov (.const (.bool false)))]) (.ret)) (.skip))))) (.reg [ oT 43 (.bin .add (.tmp 37) (kI 1)), oT 37 (.mov (.tmp 43))]))))))) (.seq (.reg [ oT 44 (.mov (.tmp 5)), oT 45 (.mov (.tmp 7)), oT 2 (.mov (.tmp 44)), oT 3 (.mov (.tmp 45)), oT 4 (.mov (.const (.bool true)))]) (.ret))))))⟩
theorem st73 : stF Try.prog qt 73 = some il73 := by kernel_rfl
noncomputable def gK : Env := fun f => match f with
 | 94 => smry (pre1 2 e2 anyL) fun l h => (tupIB (lnF l), h)
 | 95 => smry pre95 fun x h => (tupIB (ntF x.2 x.1), h)
 | 96 => smry T.pre96 fun x h => (.bool (trmB x.1), h)
 | 40 => smry (pre1 2 e2 anyL) fun l h => (.bool (stpF l), h)
 | _ => fun _ _ => none
theorem gK_ok : EnvOk Try.prog gK := fun f => by
 unfold gK
 split
 ·exact A.sim94
 ·exact sim95
 ·exact T.sim96
 ·exact S.sim40
 ·exact fun args h v h' e => by cases e
theorem gK_q : QuietEnv qt gK := fun f args h v h' hf e => by cases hf
def inl : Tab := [(73, il73)]
noncomputable abbrev gE (k : Nat) : Env := inE tblD inl k gK
noncomputable abbrev cE (k : Nat) : CallS := callS tblD inl gK 100 k
theorem noq : noQt qt inl := fun f F h => rfl
theorem inl_ok : TabOk Try.prog qt inl := .cons st73 .nil
theorem gE_q (k : Nat) : QuietEnv qt (Plain.env tblD (gE k)) := Plain.quiet (inE_quiet gK_q noq k)
theorem gE_ok (k : Nat) : EnvOk Try.prog (Plain.env tblD (gE k)) := Plain.ok tblD_ok (inE_ok (qt := qt) mixed tblD_ok inl_ok noq gK_ok gK_q k)
theorem cE_ok (k : Nat) : CallOk (Plain.env tblD (gE k)) (cE k) := callS_ok k
def il37 : FnIL := ⟨13, [.tmp 2], .seq (.reg [ oT 1 (.box (.tmp 0)), oT 2 (.mov (.const (.bool false)))]) (.seq (.reg [ oT 7 (.load (.tmp 1) (some 18)), oT 8 (.call 73 [(.tmp 7)]), oT 6 (.mov (.tmp 8)), oT 9 (.ext 0 (.tmp 6)), oT 10 (.ext 1 (.tmp 6)), oT 11 (.ext 2 (.tmp 6)), oT 3 (.mov (.tmp 9)), oT 4 (.mov (.tmp 10)), oT 5 (.mov (.tmp 11))]) (.seq (.reg [ oT 12 (.mov (.tmp 5)), oT 2 (.mov (.tmp 12))]) (.ret)))⟩
theorem st37 : stF Try.prog qt 37 = some il37 := by kernel_rfl
theorem tree37 (al an a0 a1 a2 : Option Addr) (nl cl nn cn n0 c0 n1 c1 n2 c2 : Nat) (y mo ba fe re ta ad cu oc ic la lo ce : Int) (p nt : Int) (ok ik tm s0 s1 s2 : Bool) (H : Heap) : (fun (Z0 : SH) => (fun (Z1 : Value) => (fun (Z2 : Value) => (fun (Z3 : Value) => fnS tblD (gE 1) (cE 1) 200 il37 (.use 26000014 (.raw Z3) ⟨[], []⟩ (.use 26000021 (.raw Z2) ⟨[], []⟩ (.join 3 (.con (.con (.con .nil))) (.con (.con (.con .nil))) (.sym (.con (.con (.con (.con .nil)))) (.con (.use 26000032 (sB tm) ⟨[], []⟩ (.con (.con (.sym .nil (.con (.use 26000041 (sB s0) ⟨[], []⟩ (.sym .nil (.con (.use 26000041 (sB s1) ⟨[], []⟩ (.sym .nil (.con (.use 26000041 (sB s2) ⟨[], []⟩ (.sym .nil (.con .nil))))))))))))))))))) [(.raw Z1)] [.seg H] =
(.claim (opA (Plain.env tblD (gE 0)) (.call 94 [(.const (.slice al nl cl))]) [] (denH Z0) = some (Z3, denH Z0))
 (.claim (opA (Plain.env tblD (gE 0)) (.call 95 [(.const (.slice an nn cn)), (kI p)]) [] (denH Z0) = some (Z2, denH Z0))
 (.req (bif (!ok) then true else true) (.br (bif (!ok) then true else (!ik))
 (.ret .ret [(sB false)] Z0)
 (.claim (opA (Plain.env tblD (gE 0)) (.call 96 [(.const Z1)]) [] (denH Z0) = some ((.bool tm), denH Z0))
 (.br (!tm)
 (.ret .ret [(sB false)] Z0)
 (.claim (opA (Plain.env tblD (gE 0)) (.call 40 [(.const (.slice a0 n0 c0))]) [] (denH Z0) = some ((.bool s0), denH Z0))
 (.br (!s0)
 (.ret .ret [(sB false)] Z0)
 (.claim (opA (Plain.env tblD (gE 0)) (.call 40 [(.const (.slice a1 n1 c1))]) [] (denH Z0) = some ((.bool s1), denH Z0))
 (.br (!s1)
 (.ret .ret [(sB false)] Z0)
 (.claim (opA (Plain.env tblD (gE 0)) (.call 40 [(.const (.slice a2 n2 c2))]) [] (denH Z0) = some ((.bool s2), denH Z0))
 (.br (!s2)
 (.ret .ret [(sB false)] Z0)
 (.ret .ret [(sB true)] Z0)))))))))))))) (.tuple ⟨[(.int .i64 p), (.bool ok)]⟩)) (.tuple ⟨[(.int .i64 nt), (.bool ik)]⟩)) (.agg ⟨[(.int .i64 y), (.int .i64 mo), (.int .i64 ba), (.slice al nl cl), (.slice an nn cn), (.int .i64 fe), (.int .i64 re), (.int .i64 ta), (.int .i64 ad), (.int .i64 cu), (.int .i64 oc), (.int .i64 ic), (.int .i64 la), (.int .i64 lo), (.int .i64 ce), (.slice a0 n0 c0), (.slice a1 n1 c1), (.slice a2 n2 c2)]⟩)) [.seg H, .blk .fix (xd al an a0 a1 a2 nl cl nn cn n0 c0 n1 c1 n2 c2 y mo ba fe re ta ad cu oc ic la lo ce), .blk .fix (xd al an a0 a1 a2 nl cl nn cn n0 c0 n1 c1 n2 c2 y mo ba fe re ta ad cu oc ic la lo ce)] := by show _ = _; kernel_rfl
def il38 : FnIL := ⟨13, [.tmp 2], .seq (.reg [ oT 1 (.box (.tmp 0)), oT 2 (.mov (kI 0))]) (.seq (.reg [ oT 7 (.load (.tmp 1) (some 18)), oT 8 (.call 73 [(.tmp 7)]), oT 6 (.mov (.tmp 8)), oT 9 (.ext 0 (.tmp 6)), oT 10 (.ext 1 (.tmp 6)), oT 11 (.ext 2 (.tmp 6)), oT 3 (.mov (.tmp 9)), oT 4 (.mov (.tmp 10)), oT 5 (.mov (.tmp 11))]) (.seq (.reg [ oT 12 (.mov (.tmp 3)), oT 2 (.mov (.tmp 12))]) (.ret)))⟩
theorem st38 : stF Try.prog qt 38 = some il38 := by kernel_rfl
theorem tree38 (al an a0 a1 a2 : Option Addr) (nl cl nn cn n0 c0 n1 c1 n2 c2 : Nat) (y mo ba fe re ta ad cu oc ic la lo ce : Int) (p nt : Int) (ok ik tm s0 s1 s2 : Bool) (H : Heap) : (fun (Z0 : SH) => (fun (Z1 : Value) => (fun (Z2 : Value) => (fun (Z3 : Value) => fnS tblD (gE 1) (cE 1) 200 il38 (.use 26000014 (.raw Z3) ⟨[], []⟩ (.use 26000021 (.raw Z2) ⟨[], []⟩ (.join 3 (.con (.con (.con .nil))) (.con (.con (.con .nil))) (.sym (.con (.con (.con (.con .nil)))) (.con (.use 26000032 (sB tm) ⟨[], []⟩ (.con (.con (.sym .nil (.con (.use 26000041 (sB s0) ⟨[], []⟩ (.sym .nil (.con (.use 26000041 (sB s1) ⟨[], []⟩ (.sym .nil (.con (.use 26000041 (sB s2) ⟨[], []⟩ (.sym .nil (.con .nil))))))))))))))))))) [(.raw Z1)] [.seg H] =
(.claim (opA (Plain.env tblD (gE 0)) (.call 94 [(.const (.slice al nl cl))]) [] (denH Z0) = some (Z3, denH Z0))
 (.claim (opA (Plain.env tblD (gE 0)) (.call 95 [(.const (.slice an nn cn)), (kI p)]) [] (denH Z0) = some (Z2, denH Z0))
 (.req (bif (!ok) then true else true) (.br (bif (!ok) then true else (!ik))
 (.ret .ret [(sI 0)] Z0)
 (.claim (opA (Plain.env tblD (gE 0)) (.call 96 [(.const Z1)]) [] (denH Z0) = some ((.bool tm), denH Z0))
 (.br (!tm)
 (.ret .ret [(sI 0)] Z0)
 (.claim (opA (Plain.env tblD (gE 0)) (.call 40 [(.const (.slice a0 n0 c0))]) [] (denH Z0) = some ((.bool s0), denH Z0))
 (.br (!s0)
 (.ret .ret [(sI 0)] Z0)
 (.claim (opA (Plain.env tblD (gE 0)) (.call 40 [(.const (.slice a1 n1 c1))]) [] (denH Z0) = some ((.bool s1), denH Z0))
 (.br (!s1)
 (.ret .ret [(sI 0)] Z0)
 (.claim (opA (Plain.env tblD (gE 0)) (.call 40 [(.const (.slice a2 n2 c2))]) [] (denH Z0) = some ((.bool s2), denH Z0))
 (.br (!s2)
 (.ret .ret [(sI 0)] Z0)
 (.ret .ret [(sI p)] Z0)))))))))))))) (.tuple ⟨[(.int .i64 p), (.bool ok)]⟩)) (.tuple ⟨[(.int .i64 nt), (.bool ik)]⟩)) (.agg ⟨[(.int .i64 y), (.int .i64 mo), (.int .i64 ba), (.slice al nl cl), (.slice an nn cn), (.int .i64 fe), (.int .i64 re), (.int .i64 ta), (.int .i64 ad), (.int .i64 cu), (.int .i64 oc), (.int .i64 ic), (.int .i64 la), (.int .i64 lo), (.int .i64 ce), (.slice a0 n0 c0), (.slice a1 n1 c1), (.slice a2 n2 c2)]⟩)) [.seg H, .blk .fix (xd al an a0 a1 a2 nl cl nn cn n0 c0 n1 c1 n2 c2 y mo ba fe re ta ad cu oc ic la lo ce), .blk .fix (xd al an a0 a1 a2 nl cl nn cn n0 c0 n1 c1 n2 c2 y mo ba fe re ta ad cu oc ic la lo ce)] := by show _ = _; kernel_rfl
def il39 : FnIL := ⟨13, [.tmp 2], .seq (.reg [ oT 1 (.box (.tmp 0)), oT 2 (.mov (kI 0))]) (.seq (.reg [ oT 7 (.load (.tmp 1) (some 18)), oT 8 (.call 73 [(.tmp 7)]), oT 6 (.mov (.tmp 8)), oT 9 (.ext 0 (.tmp 6)), oT 10 (.ext 1 (.tmp 6)), oT 11 (.ext 2 (.tmp 6)), oT 3 (.mov (.tmp 9)), oT 4 (.mov (.tmp 10)), oT 5 (.mov (.tmp 11))]) (.seq (.reg [ oT 12 (.mov (.tmp 4)), oT 2 (.mov (.tmp 12))]) (.ret)))⟩
theorem st39 : stF Try.prog qt 39 = some il39 := by kernel_rfl
theorem tree39 (al an a0 a1 a2 : Option Addr) (nl cl nn cn n0 c0 n1 c1 n2 c2 : Nat) (y mo ba fe re ta ad cu oc ic la lo ce : Int) (p nt : Int) (ok ik tm s0 s1 s2 : Bool) (H : Heap) : (fun (Z0 : SH) => (fun (Z1 : Value) => (fun (Z2 : Value) => (fun (Z3 : Value) => fnS tblD (gE 1) (cE 1) 200 il39 (.use 26000014 (.raw Z3) ⟨[], []⟩ (.use 26000021 (.raw Z2) ⟨[], []⟩ (.join 3 (.con (.con (.con .nil))) (.con (.con (.con .nil))) (.sym (.con (.con (.con (.con .nil)))) (.con (.use 26000032 (sB tm) ⟨[], []⟩ (.con (.con (.sym .nil (.con (.use 26000041 (sB s0) ⟨[], []⟩ (.sym .nil (.con (.use 26000041 (sB s1) ⟨[], []⟩ (.sym .nil (.con (.use 26000041 (sB s2) ⟨[], []⟩ (.sym .nil (.con .nil))))))))))))))))))) [(.raw Z1)] [.seg H] =
(.claim (opA (Plain.env tblD (gE 0)) (.call 94 [(.const (.slice al nl cl))]) [] (denH Z0) = some (Z3, denH Z0))
 (.claim (opA (Plain.env tblD (gE 0)) (.call 95 [(.const (.slice an nn cn)), (kI p)]) [] (denH Z0) = some (Z2, denH Z0))
 (.req (bif (!ok) then true else true) (.br (bif (!ok) then true else (!ik))
 (.ret .ret [(sI 0)] Z0)
 (.claim (opA (Plain.env tblD (gE 0)) (.call 96 [(.const Z1)]) [] (denH Z0) = some ((.bool tm), denH Z0))
 (.br (!tm)
 (.ret .ret [(sI 0)] Z0)
 (.claim (opA (Plain.env tblD (gE 0)) (.call 40 [(.const (.slice a0 n0 c0))]) [] (denH Z0) = some ((.bool s0), denH Z0))
 (.br (!s0)
 (.ret .ret [(sI 0)] Z0)
 (.claim (opA (Plain.env tblD (gE 0)) (.call 40 [(.const (.slice a1 n1 c1))]) [] (denH Z0) = some ((.bool s1), denH Z0))
 (.br (!s1)
 (.ret .ret [(sI 0)] Z0)
 (.claim (opA (Plain.env tblD (gE 0)) (.call 40 [(.const (.slice a2 n2 c2))]) [] (denH Z0) = some ((.bool s2), denH Z0))
 (.br (!s2)
 (.ret .ret [(sI 0)] Z0)
 (.ret .ret [(sI nt)] Z0)))))))))))))) (.tuple ⟨[(.int .i64 p), (.bool ok)]⟩)) (.tuple ⟨[(.int .i64 nt), (.bool ik)]⟩)) (.agg ⟨[(.int .i64 y), (.int .i64 mo), (.int .i64 ba), (.slice al nl cl), (.slice an nn cn), (.int .i64 fe), (.int .i64 re), (.int .i64 ta), (.int .i64 ad), (.int .i64 cu), (.int .i64 oc), (.int .i64 ic), (.int .i64 la), (.int .i64 lo), (.int .i64 ce), (.slice a0 n0 c0), (.slice a1 n1 c1), (.slice a2 n2 c2)]⟩)) [.seg H, .blk .fix (xd al an a0 a1 a2 nl cl nn cn n0 c0 n1 c1 n2 c2 y mo ba fe re ta ad cu oc ic la lo ce), .blk .fix (xd al an a0 a1 a2 nl cl nn cn n0 c0 n1 c1 n2 c2 y mo ba fe re ta ad cu oc ic la lo ce)] := by show _ = _; kernel_rfl
theorem sims : Summ Try.prog 37 (smry preD fun d h => (.bool (rightB d), h)) ∧ Summ Try.prog 38 (smry preD fun d h => (.int .i64 (if rightB d then (lnF d.l).1 else 0), h)) ∧ Summ Try.prog 39 (smry preD fun d h => (.int .i64 (if rightB d then (ntF (lnF d.l).1 d.n).1 else 0), h)) := by
 have main : ∀ {d : DV} {args : List Value} {H : Heap}, preD d args H → Sim Try.prog 37 args H (fun v h' => v = .bool (rightB d) ∧ ∃ X, h' = H ++ X) ∧ Sim Try.prog 38 args H (fun v h' => v = .int .i64 (if rightB d then (lnF d.l).1 else 0) ∧ ∃ X, h' = H ++ X) ∧ Sim Try.prog 39 args H (fun v h' => v = .int .i64 (if rightB d then (ntF (lnF d.l).1 d.n).1 else 0) ∧ ∃ X, h' = H ++ X) := by
  intro d args H ⟨v, e, ⟨al, an, a0, a1, a2, cl, cn, c0, c1, c2, ev, h1, h2, h3, h4, h5⟩, b1, b2, b3, b4, b5⟩
  subst ev
  subst e
  have hb := lnF_b d.l
  have hr0 : rightB d = ((lnF d.l).2 && (ntF (lnF d.l).1 d.n).2 && trmB d && stpF d.s0 && stpF d.s1 && stpF d.s2) := rfl
  have c94 : ∀ X, gK 94 [.slice al d.l.length cl] (denH (.seg H :: X)) = some (tupIB (lnF d.l), denH (.seg H :: X)) := fun X => pre1_u (F := fun l h => (tupIB (lnF l), h)) e2_1 ⟨_, rfl, up1 h1 X, b1⟩
  have c95 : ∀ X, gK 95 [.slice an d.n.length cn, .int .i64 (lnF d.l).1] (denH (.seg H :: X)) = some (tupIB (ntF (lnF d.l).1 d.n), denH (.seg H :: X)) := fun X => call95 (up1 h2 X) hb
  have c96 : ∀ X, gK 96 [dVal al an a0 a1 a2 d.l.length cl d.n.length cn d.s0.length c0 d.s1.length c1 d.s2.length c2 d] (denH (.seg H :: X)) = some (.bool (trmB d), denH (.seg H :: X)) := fun X => T.call96
  have c0' : ∀ X, gK 40 [.slice a0 d.s0.length c0] (denH (.seg H :: X)) = some (.bool (stpF d.s0), denH (.seg H :: X)) := fun X => pre1_u (F := fun l h => (.bool (stpF l), h)) e2_1 ⟨_, rfl, up1 h3 X, b3⟩
  have c1' : ∀ X, gK 40 [.slice a1 d.s1.length c1] (denH (.seg H :: X)) = some (.bool (stpF d.s1), denH (.seg H :: X)) := fun X => pre1_u (F := fun l h => (.bool (stpF l), h)) e2_1 ⟨_, rfl, up1 h4 X, b4⟩
  have c2' : ∀ X, gK 40 [.slice a2 d.s2.length c2] (denH (.seg H :: X)) = some (.bool (stpF d.s2), denH (.seg H :: X)) := fun X => pre1_u (F := fun l h => (.bool (stpF l), h)) e2_1 ⟨_, rfl, up1 h5 X, b5⟩
  generalize rightB d = rt at hr0 ⊢
  cases hln : lnF d.l with
  | mk p ok =>
  rw [hln] at c94 c95 hr0
  cases hnt : ntF p d.n with
  | mk nt ik =>
  simp only at c95 hr0 ⊢
  rw [hnt] at c95 hr0
  simp only at hr0 ⊢
  generalize trmB d = tm at c96 hr0
  generalize stpF d.s0 = s0 at c0' hr0
  generalize stpF d.s1 = s1 at c1' hr0
  generalize stpF d.s2 = s2 at c2' hr0
  have hr := hr0
  refine ⟨?_, ?_, ?_⟩
  ·have := fnS_tree (Q := fun v h' => v = .bool rt ∧ ∃ X, h' = H ++ X) mixed (gE_ok 1) (gE_q 1) (cE_ok 1) st37 (tree37 al an a0 a1 a2 d.l.length cl d.n.length cn d.s0.length c0 d.s1.length c1 d.s2.length c2 d.y d.mo d.ba d.fe d.re d.ta d.ad d.cu d.oc d.ic d.la d.lo d.ce p nt ok ik tm s0 s1 s2 H) ⟨rfl, rfl⟩ ⟨opA_call (args := [_]) rfl (c94 _), ⟨opA_call (args := [_, _]) rfl (c95 _), ⟨by simp, ⟨fun hb0 => ⟨by rw [hr]; show Value.bool _ = Value.bool _; rcases (show ok = false ∨ ik = false by simpa using hb0) with h | h <;> simp [h], _, by simp [denH, denL, It.den]; rfl⟩, fun hb0 => ⟨opA_call (args := [_]) rfl (c96 _), ⟨fun hb1 => ⟨by rw [hr]; show Value.bool _ = Value.bool _; simp_all, _, by simp [denH, denL, It.den]; rfl⟩, fun hb1 => ⟨opA_call (args := [_]) rfl (c0' _), ⟨fun hb2 => ⟨by rw [hr]; show Value.bool _ = Value.bool _; simp_all, _, by simp [denH, denL, It.den]; rfl⟩, fun hb2 => ⟨opA_call (args := [_]) rfl (c1' _), ⟨fun hb3 => ⟨by rw [hr]; show Value.bool _ = Value.bool _; simp_all, _, by simp [denH, denL, It.den]; rfl⟩, fun hb3 => ⟨opA_call (args := [_]) rfl (c2' _), ⟨fun hb4 => ⟨by rw [hr]; show Value.bool _ = Value.bool _; simp_all, _, by simp [denH, denL, It.den]; rfl⟩, fun hb4 => ⟨by rw [hr]; show Value.bool _ = Value.bool _; simp_all, _, by simp [denH, denL, It.den]; rfl⟩⟩⟩⟩⟩⟩⟩⟩⟩⟩⟩⟩⟩
   simpa [dVal, denH, denL, It.den, denF, denV, denA, den0] using this
  ·have := fnS_tree (Q := fun v h' => v = .int .i64 (if rt then p else 0) ∧ ∃ X, h' = H ++ X) mixed (gE_ok 1) (gE_q 1) (cE_ok 1) st38 (tree38 al an a0 a1 a2 d.l.length cl d.n.length cn d.s0.length c0 d.s1.length c1 d.s2.length c2 d.y d.mo d.ba d.fe d.re d.ta d.ad d.cu d.oc d.ic d.la d.lo d.ce p nt ok ik tm s0 s1 s2 H) ⟨rfl, rfl⟩ ⟨opA_call (args := [_]) rfl (c94 _), ⟨opA_call (args := [_, _]) rfl (c95 _), ⟨by simp, ⟨fun hb0 => ⟨by rw [hr]; show Value.int .i64 _ = Value.int .i64 _; rcases (show ok = false ∨ ik = false by simpa using hb0) with h | h <;> simp [h], _, by simp [denH, denL, It.den]; rfl⟩, fun hb0 => ⟨opA_call (args := [_]) rfl (c96 _), ⟨fun hb1 => ⟨by rw [hr]; show Value.int .i64 _ = Value.int .i64 _; simp_all, _, by simp [denH, denL, It.den]; rfl⟩, fun hb1 => ⟨opA_call (args := [_]) rfl (c0' _), ⟨fun hb2 => ⟨by rw [hr]; show Value.int .i64 _ = Value.int .i64 _; simp_all, _, by simp [denH, denL, It.den]; rfl⟩, fun hb2 => ⟨opA_call (args := [_]) rfl (c1' _), ⟨fun hb3 => ⟨by rw [hr]; show Value.int .i64 _ = Value.int .i64 _; simp_all, _, by simp [denH, denL, It.den]; rfl⟩, fun hb3 => ⟨opA_call (args := [_]) rfl (c2' _), ⟨fun hb4 => ⟨by rw [hr]; show Value.int .i64 _ = Value.int .i64 _; simp_all, _, by simp [denH, denL, It.den]; rfl⟩, fun hb4 => ⟨by rw [hr]; show Value.int .i64 _ = Value.int .i64 _; simp_all, _, by simp [denH, denL, It.den]; rfl⟩⟩⟩⟩⟩⟩⟩⟩⟩⟩⟩⟩⟩
   simpa [dVal, denH, denL, It.den, denF, denV, denA, den0] using this
  ·have := fnS_tree (Q := fun v h' => v = .int .i64 (if rt then nt else 0) ∧ ∃ X, h' = H ++ X) mixed (gE_ok 1) (gE_q 1) (cE_ok 1) st39 (tree39 al an a0 a1 a2 d.l.length cl d.n.length cn d.s0.length c0 d.s1.length c1 d.s2.length c2 d.y d.mo d.ba d.fe d.re d.ta d.ad d.cu d.oc d.ic d.la d.lo d.ce p nt ok ik tm s0 s1 s2 H) ⟨rfl, rfl⟩ ⟨opA_call (args := [_]) rfl (c94 _), ⟨opA_call (args := [_, _]) rfl (c95 _), ⟨by simp, ⟨fun hb0 => ⟨by rw [hr]; show Value.int .i64 _ = Value.int .i64 _; rcases (show ok = false ∨ ik = false by simpa using hb0) with h | h <;> simp [h], _, by simp [denH, denL, It.den]; rfl⟩, fun hb0 => ⟨opA_call (args := [_]) rfl (c96 _), ⟨fun hb1 => ⟨by rw [hr]; show Value.int .i64 _ = Value.int .i64 _; simp_all, _, by simp [denH, denL, It.den]; rfl⟩, fun hb1 => ⟨opA_call (args := [_]) rfl (c0' _), ⟨fun hb2 => ⟨by rw [hr]; show Value.int .i64 _ = Value.int .i64 _; simp_all, _, by simp [denH, denL, It.den]; rfl⟩, fun hb2 => ⟨opA_call (args := [_]) rfl (c1' _), ⟨fun hb3 => ⟨by rw [hr]; show Value.int .i64 _ = Value.int .i64 _; simp_all, _, by simp [denH, denL, It.den]; rfl⟩, fun hb3 => ⟨opA_call (args := [_]) rfl (c2' _), ⟨fun hb4 => ⟨by rw [hr]; show Value.int .i64 _ = Value.int .i64 _; simp_all, _, by simp [denH, denL, It.den]; rfl⟩, fun hb4 => ⟨by rw [hr]; show Value.int .i64 _ = Value.int .i64 _; simp_all, _, by simp [denH, denL, It.den]; rfl⟩⟩⟩⟩⟩⟩⟩⟩⟩⟩⟩⟩⟩
   simpa [dVal, denH, denL, It.den, denF, denV, denA, den0] using this
 exact ⟨smry_ok fun d args H a => Sim.plain (main a).1 (fun v hv => by subst hv; rfl), smry_ok fun d args H a => Sim.plain (main a).2.1 (fun v hv => by subst hv; rfl), smry_ok fun d args H a => Sim.plain (main a).2.2 (fun v hv => by subst hv; rfl)⟩
end U
end D
end Go.Proofs.Ytgdojnamjkhknaa
