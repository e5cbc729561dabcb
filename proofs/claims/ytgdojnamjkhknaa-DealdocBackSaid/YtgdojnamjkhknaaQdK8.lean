/-
  keep: are two deals the same?
-/
import Derived.Test.YtgdojnamjkhknaaQdK7
namespace Go.Proofs.Ytgdojnamjkhknaa
open Go.Am
set_option linter.all false
set_option maxRecDepth 100000
namespace K
open D (DV DlW dVal)
namespace E2
theorem tree44g (d0 d1 d2 d3 d4 d5 d6 d7 d8 d9 d10 d11 d12 e0 e1 e2 e3 e4 e5 e6 e7 e8 e9 e10 e11 e12 : Int) (aa0 ba0 aa1 ba1 aa2 ba2 aa3 ba3 aa4 ba4 : Option Addr) (am0 bm0 ac0 bc0 am1 bm1 ac1 bc1 am2 bm2 ac2 bc2 am3 bm3 ac3 bc3 am4 bm4 ac4 bc4 : Nat) (qt qd0 qd1 qd2 qd3 qd4 qd5 qd6 qd7 qd8 qd9 qd10 qd11 qd12 qaa0 qaa1 qaa2 qaa3 qaa4 : Bool) (H : Heap) : (fun (Z0 : SH) => fnS [] (gE 0) (cE 0) 400 il44 (.con (.use 26000017 (sB qaa2) ⟨[], []⟩ (.sym .nil (.con (.use 26000017 (sB qaa3) ⟨[], []⟩ (.sym .nil (.con (.use 26000017 (sB qaa4) ⟨[], []⟩ (.sym .nil (.con (.pur 10000024 (.bool qd0) (.join 6 (.con (.con (.con (.con (.con (.con .nil)))))) (.con (.con (.con (.con (.con (.con .nil)))))) (.join 6 (.con (.con (.con (.con (.con (.con .nil)))))) (.con (.con (.con (.con (.con (.con .nil)))))) (.join 6 (.con (.con (.con (.con (.con (.con .nil)))))) (.con (.con (.con (.con (.con (.con .nil)))))) (.join 6 (.con (.con (.con (.con (.con (.con .nil)))))) (.con (.con (.con (.con (.con (.con .nil)))))) (.join 6 (.con (.con (.con (.con (.con (.con .nil)))))) (.con (.con (.con (.con (.con (.con .nil)))))) (.join 6 (.con (.con (.con (.con (.con (.con .nil)))))) (.con (.con (.con (.con (.con (.con .nil)))))) (.join 6 (.con (.con (.con (.con (.con (.con .nil)))))) (.con (.con (.con (.con (.con (.con .nil)))))) (.join 6 (.con (.con (.con (.con (.con (.con .nil)))))) (.con (.con (.con (.con (.con (.con .nil)))))) (.sym (.con (.con (.con (.con (.use 26000086 (sB qaa0) ⟨[], []⟩ (.con (.sym (.con (.con (.con (.con (.use 26000093 (sB qaa1) ⟨[], []⟩ (.con .nil)))))) (.con (.con (.con (.con (.con .nil)))))))))))) (.con (.con (.con (.con (.con (.con (.con (.con (.con (.con (.con .nil))))))))))))))))))))))))))))))) [(.raw (.agg ⟨[(.int .i64 d0), (.int .i64 d1), (.int .i64 d2), (.slice aa0 am0 ac0), (.slice aa1 am1 ac1), (.int .i64 d3), (.int .i64 d4), (.int .i64 d5), (.int .i64 d6), (.int .i64 d7), (.int .i64 d8), (.int .i64 d9), (.int .i64 d10), (.int .i64 d11), (.int .i64 d12), (.slice aa2 am2 ac2), (.slice aa3 am3 ac3), (.slice aa4 am4 ac4)]⟩)), (.raw (.agg ⟨[(.int .i64 e0), (.int .i64 e1), (.int .i64 e2), (.slice ba0 bm0 bc0), (.slice ba1 bm1 bc1), (.int .i64 e3), (.int .i64 e4), (.int .i64 e5), (.int .i64 e6), (.int .i64 e7), (.int .i64 e8), (.int .i64 e9), (.int .i64 e10), (.int .i64 e11), (.int .i64 e12), (.slice ba2 bm2 bc2), (.slice ba3 bm3 bc3), (.slice ba4 bm4 bc4)]⟩))] [.seg H] =
(.req true (.claim (opA (Plain.env [] (gE 0)) (.call 81 [(.const (.slice aa2 am2 ac2)), (.const (.slice ba2 bm2 bc2))]) [] (denH Z0) = some ((.bool qaa2), denH Z0))
 (.br (!qaa2)
 (.ret .ret [(sB false)] Z0)
 (.req true (.claim (opA (Plain.env [] (gE 0)) (.call 81 [(.const (.slice aa3 am3 ac3)), (.const (.slice ba3 bm3 bc3))]) [] (denH Z0) = some ((.bool qaa3), denH Z0))
 (.br (!qaa3)
 (.ret .ret [(sB false)] Z0)
 (.req true (.claim (opA (Plain.env [] (gE 0)) (.call 81 [(.const (.slice aa4 am4 ac4)), (.const (.slice ba4 bm4 bc4))]) [] (denH Z0) = some ((.bool qaa4), denH Z0))
 (.br (!qaa4)
 (.ret .ret [(sB false)] Z0)
 (.claim (opA (Plain.env [] (gE 0)) (.bin .eql (kI d0) (kI e0)) [] [] = some ((.bool qd0), []))
 (.req (bif qd0 then true else true) (.req (bif (bif qd0 then (d1 == e1) else false) then true else true) (.req (bif (bif (bif qd0 then (d1 == e1) else false) then (d2 == e2) else false) then true else true) (.req (bif (bif (bif (bif qd0 then (d1 == e1) else false) then (d2 == e2) else false) then (d3 == e3) else false) then true else true) (.req (bif (bif (bif (bif (bif qd0 then (d1 == e1) else false) then (d2 == e2) else false) then (d3 == e3) else false) then (d4 == e4) else false) then true else true) (.req (bif (bif (bif (bif (bif (bif qd0 then (d1 == e1) else false) then (d2 == e2) else false) then (d3 == e3) else false) then (d4 == e4) else false) then (d5 == e5) else false) then true else true) (.req (bif (bif (bif (bif (bif (bif (bif qd0 then (d1 == e1) else false) then (d2 == e2) else false) then (d3 == e3) else false) then (d4 == e4) else false) then (d5 == e5) else false) then (d6 == e6) else false) then true else true) (.req (bif (bif (bif (bif (bif (bif (bif (bif qd0 then (d1 == e1) else false) then (d2 == e2) else false) then (d3 == e3) else false) then (d4 == e4) else false) then (d5 == e5) else false) then (d6 == e6) else false) then (d7 == e7) else false) then true else true) (.br (bif (bif (bif (bif (bif (bif (bif (bif qd0 then (d1 == e1) else false) then (d2 == e2) else false) then (d3 == e3) else false) then (d4 == e4) else false) then (d5 == e5) else false) then (d6 == e6) else false) then (d7 == e7) else false) then ((d8 == e8) && ((d9 == e9) && ((d10 == e10) && ((d11 == e11) && ((d12 == e12) && true))))) else false)
 (.claim (opA (Plain.env [] (gE 0)) (.call 82 [(.const (.slice aa0 am0 ac0)), (.const (.slice ba0 bm0 bc0))]) [] (denH Z0) = some ((.bool qaa0), denH Z0))
 (.br qaa0
 (.claim (opA (Plain.env [] (gE 0)) (.call 83 [(.const (.slice aa1 am1 ac1)), (.const (.slice ba1 bm1 bc1))]) [] (denH Z0) = some ((.bool qaa1), denH Z0))
 (.ret .ret [(sB qaa1)] Z0))
 (.ret .ret [(sB false)] Z0)))
 (.ret .ret [(sB false)] Z0))))))))))))))))))))) [.seg H, .blk .fix [(sI d0), (sI d1), (sI d2), (rS aa0 am0 ac0), (rS aa1 am1 ac1), (sI d3), (sI d4), (sI d5), (sI d6), (sI d7), (sI d8), (sI d9), (sI d10), (sI d11), (sI d12), (rS aa2 am2 ac2), (rS aa3 am3 ac3), (rS aa4 am4 ac4)], .blk .fix [(sI e0), (sI e1), (sI e2), (rS ba0 bm0 bc0), (rS ba1 bm1 bc1), (sI e3), (sI e4), (sI e5), (sI e6), (sI e7), (sI e8), (sI e9), (sI e10), (sI e11), (sI e12), (rS ba2 bm2 bc2), (rS ba3 bm3 bc3), (rS ba4 bm4 bc4)]] := by show _ = _; kernel_rfl
end E2
open E2
theorem eql_i (Γ : Env) (x y : Int) : opA Γ (.bin .eql (kI x) (kI y)) [] [] = some (.bool (x == y), []) := by
 simp only [opA, pureA, ev, binA, intBin, if_true]
noncomputable def eqD (d e : DV) : Bool := @decide (d = e) (Classical.propDecidable _)
theorem eqD_t (d : DV) : eqD d d = true := by unfold eqD; exact @decide_eq_true _ (Classical.propDecidable _) rfl
theorem eqD_f {d e : DV} (h : d ≠ e) : eqD d e = false := by unfold eqD; exact @decide_eq_false _ (Classical.propDecidable _) h
def pre44g (x : DV × DV) (args : List Value) (h : Heap) : Prop := ∃ a b, args = [a, b] ∧ DlW h a x.1 ∧ DlW h b x.2 ∧ x.1.sm
noncomputable def res44g (x : DV × DV) (h : Heap) : Value × Heap := (.bool (eqD x.1 x.2), h)
theorem call44g {d e : DV} {a b : Value} {h : Heap} (ha : DlW h a d) (hb : DlW h b e) (hs : d.sm) : smry pre44g res44g [a, b] h = some (.bool (eqD d e), h) :=
 smry_some (x := (d, e)) ⟨a, b, rfl, ha, hb, hs⟩ fun y ⟨a', b', e', ha', hb', _⟩ => by
  simp only [List.cons.injEq, and_true] at e'
  obtain ⟨rfl, rfl⟩ := e'
  unfold res44g
  rw [ha.uniq ha', hb.uniq hb']
theorem same_eq {α : Type} {a b : List α} (h : same a b = true) : a = b := by
 by_cases e : a = b
 ·exact e
 ·rw [same_f e] at h; cases h
theorem same_ne {α : Type} {a : List α} (h : same a a = false) : False := by rw [same_t rfl] at h; cases h
theorem sim44g : Summ Try.prog 44 (smry pre44g res44g) := smry_ok fun x args H ⟨a, b, ea, ha, hb, hs⟩ => by
 subst ea
 obtain ⟨d, e⟩ := x
 obtain ⟨al, an, x0, x1, x2, cl, cn, y0, y1, y2, rfl, a0, a1, a2, a3, a4⟩ := ha
 obtain ⟨bl, bn, z0, z1, z2, dl, dn, w0, w1, w2, rfl, b0, b1, b2, b3, b4⟩ := hb
 obtain ⟨m0, m1, m2, m3, m4⟩ := hs
 have c2 : ∀ {s t : Value} {l m : List R2}, RowsW 2 H s (l.map e2) → RowsW 2 H t (m.map e2) → l.length ≤ 1099511627776 → ∀ X : SH, smry (preSame 2 e2) resSame [s, t] (denH (.seg H :: X)) = some (.bool (same l m), denH (.seg H :: X)) := fun {s t l m} p q n X => callSame e2_1 (D.up1 p X) (D.up1 q X) n
 have c3 : ∀ {s t : Value} {l m : List R3}, RowsW 3 H s (l.map e3) → RowsW 3 H t (m.map e3) → l.length ≤ 1099511627776 → ∀ X : SH, smry (preSame 3 e3) resSame [s, t] (denH (.seg H :: X)) = some (.bool (same l m), denH (.seg H :: X)) := fun {s t l m} p q n X => callSame e3_1 (D.up1 p X) (D.up1 q X) n
 have no : d ≠ e → false = eqD d e := fun h => (eqD_f h).symm
 refine Sim.plain (R := fun v => v = .bool (eqD d e)) ?_ (fun v hv => by subst hv; rfl)
 have fin : ∀ (q : Bool) (B1 B2 : It), q = eqD d e → (Value.bool q = .bool (eqD d e) ∧ ∃ X, denH [.seg H, B1, B2] = H ++ X) := fun q B1 B2 h => ⟨by rw [h], _, denH_app (I := [.seg H]) (J := [B1, B2]) rfl |>.trans (by simp [denH, denL, It.den]; rfl)⟩
 have := fnS_tree (Q := fun v h' => v = .bool (eqD d e) ∧ ∃ X, h' = H ++ X) mixed (gE_ok 0) (gE_q 0) (cE_ok 0) st44 (tree44g d.y d.mo d.ba d.fe d.re d.ta d.ad d.cu d.oc d.ic d.la d.lo d.ce e.y e.mo e.ba e.fe e.re e.ta e.ad e.cu e.oc e.ic e.la e.lo e.ce al bl an bn x0 z0 x1 z1 x2 z2 d.l.length e.l.length cl dl d.n.length e.n.length cn dn d.s0.length e.s0.length y0 w0 d.s1.length e.s1.length y1 w1 d.s2.length e.s2.length y2 w2
  false (d.y == e.y) false false false false false false false false false false false false (same d.l e.l) (same d.n e.n) (same d.s0 e.s0) (same d.s1 e.s1) (same d.s2 e.s2) H) ⟨by kernel_rfl, by kernel_rfl⟩
  ⟨rfl, opA_call (args := [_, _]) rfl (c2 a2 b2 m2 _), fun q => fin _ _ _ (no fun h => by subst h; simp at q; exact same_ne q), fun q2 => ⟨rfl, opA_call (args := [_, _]) rfl (c2 a3 b3 m3 _), fun q => fin _ _ _ (no fun h => by subst h; simp at q; exact same_ne q), fun q3 => ⟨rfl, opA_call (args := [_, _]) rfl (c2 a4 b4 m4 _), fun q => fin _ _ _ (no fun h => by subst h; simp at q; exact same_ne q), fun q4 => ⟨eql_i _ _ _, bif_tt _, bif_tt _, bif_tt _, bif_tt _, bif_tt _, bif_tt _, bif_tt _, bif_tt _,
   fun q5 => ⟨opA_call (args := [_, _]) rfl (c2 a0 b0 m0 _), fun q6 => ⟨opA_call (args := [_, _]) rfl (c3 a1 b1 m1 _), fin _ _ _ (by
    simp at q2 q3 q4 q5
    have h0 := same_eq q2
    have h1 := same_eq q3
    have h2 := same_eq q4
    have hl := same_eq q6
    by_cases hn : d.n = e.n
    ·have : d = e := by
      obtain ⟨y, mo, ba, fe, re, ta, ad, cu, oc, ic, la, lo, ce, l, n, s0, s1, s2⟩ := d
      obtain ⟨y', mo', ba', fe', re', ta', ad', cu', oc', ic', la', lo', ce', l', n', s0', s1', s2'⟩ := e
      simp only [DV.mk.injEq] at *
      simp_all
     rw [this, eqD_t, same_t rfl]
    ·rw [same_f hn, eqD_f fun h => hn (by rw [h])])⟩, fun q => fin _ _ _ (no fun h => by subst h; exact same_ne q)⟩, fun q => fin _ _ _ (no fun h => by subst h; simp at q)⟩⟩⟩⟩
 simpa [dVal, denH, denL, It.den, denF, denV, denA, den0] using this
end K
end Go.Proofs.Ytgdojnamjkhknaa
