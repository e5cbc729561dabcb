/-
  The law DealdocBack.
-/
import Derived.Test.YtgdojnamjkhknaaQdL20a
namespace Go.Proofs.Ytgdojnamjkhknaa
open Go.Am
set_option linter.all false
set_option maxRecDepth 100000
namespace T20
open DY
open K (KV KW kVal dealF kB)
open D (DV DlW dVal preD preD_u rightB)
open DE (dB dZ dX dD encD dealI)
open DU (decD dv0)
open DZ (DIn Bnd)
open WB (byt byt_len useB)
theorem tree20h (k0 k1 k2 k3 k4 k5 k6 k7 k8 k9 k10 k11 k12 j0 j1 j2 j3 j4 j5 j6 j7 j8 j9 j10 j11 j12 y mo ba fe re ta ad cu oc ic la lo ce y' mo' ba' fe' re' ta' ad' cu' oc' ic' la' lo' ce' yr mor bar fer rer tar adr cur ocr icr lar lor cer : Int) (u0 u1 u2 u3 u4 u5 u6 v0 v1 v2 v3 v4 v5 v6 : Value) (al an a0 a1 a2 eal ean ea0 ea1 ea2 ral ran ra0 ra1 ra2 : Option Addr) (nl nn n0 n1 n2 cl cn c0 c1 c2 enl enn en0 en1 en2 ecl ecn ec0 ec1 ec2 rnl rnn rn0 rn1 rn2 rcl rcn rc0 rc1 rc2 : Nat) (H X1 X2 : Heap) : (fun (Z0 : It) => (fun (Z1 : It) => (fun (Z2 : It) => (fun (Z3 : Value) => (fun (Z4 : Value) => (fun (Z5 : Value) => (fun (Z6 : Value) => pieceS tbl (gE 0) (cE 0) 300 (fun i => (exL i r20_1 || resLv il20.res i)) c20_0 (.crs [none, some ((.raw Z4), ⟨[], [.seg X1]⟩), none, some ((.raw Z3), ⟨[], [.seg X2]⟩), none, none, none, none] .nil) (frS 136 [(0, (.raw Z5)), (1, (.raw Z6)), (2, (.raw (.agg ⟨[(.int .i64 yr), (.int .i64 mor), (.int .i64 bar), (.slice ral rnl rcl), (.slice ran rnn rcn), (.int .i64 fer), (.int .i64 rer), (.int .i64 tar), (.int .i64 adr), (.int .i64 cur), (.int .i64 ocr), (.int .i64 icr), (.int .i64 lar), (.int .i64 lor), (.int .i64 cer), (.slice ra0 rn0 rc0), (.slice ra1 rn1 rc1), (.slice ra2 rn2 rc2)]⟩)))]) [.seg H] =
(.req true (.claim (opA (Plain.env tbl (gE 0)) (.call 41 [(.const Z5)]) [] (denH [.seg H, Z1, Z2, Z0]) = some (Z4, denH [.seg H, Z1, Z2, Z0, .seg X1]))
 (.req true (.claim (opA (Plain.env tbl (gE 0)) (.call 41 [(.const Z6)]) [] (denH [.seg H, Z1, Z2, Z0, .seg X1]) = some (Z3, denH [.seg H, Z1, Z2, Z0, .seg X1, .seg X2]))
 (.req true (.req true (.req true (.req true (.req ((decide (j0 = j0)) && ((decide (j1 = j1)) && ((decide (j2 = j2)) && ((decide (j3 = j3)) && ((decide (j4 = j4)) && ((decide (j5 = j5)) && ((decide (j6 = j6)) && ((decide (j7 = j7)) && ((decide (j8 = j8)) && ((decide (j9 = j9)) && ((decide (j10 = j10)) && ((decide (j11 = j11)) && ((decide (j12 = j12)) && ((eq0 v0 v0) && ((eq0 v1 v1) && ((eq0 v2 v2) && ((eq0 v3 v3) && ((eq0 v4 v4) && ((eq0 v5 v5) && ((eq0 v6 v6) && true)))))))))))))))))))) (.ret .normal (frS 136 [(5, (.ptr 3 0)), (6, (sB false)), (7, (.ptr 6 0)), (8, (.ptr 7 0))]) [.seg H, Z1, Z2, Z0, .seg X1, .seg X2, (dX al an a0 a1 a2 nl cl nn cn n0 c0 n1 c1 n2 c2 y mo ba fe re ta ad cu oc ic la lo ce), (dB (y') (mo') (ba') (rS eal enl ecl) (rS ean enn ecn) (fe') (re') (ta') (ad') (cu') (oc') (ic') (la') (lo') (ce') (rS ea0 en0 ec0) (rS ea1 en1 ec1) (rS ea2 en2 ec2))]))))))))))) (.agg ⟨[(.int .i64 j0), (.int .i64 j1), (.int .i64 j2), (.int .i64 j3), (.int .i64 j4), (.int .i64 j5), (.int .i64 j6), (.int .i64 j7), (.int .i64 j8), (.int .i64 j9), (.int .i64 j10), (.int .i64 j11), (.int .i64 j12), v0, v1, v2, v3, v4, v5, v6]⟩)) (.agg ⟨[(.int .i64 k0), (.int .i64 k1), (.int .i64 k2), (.int .i64 k3), (.int .i64 k4), (.int .i64 k5), (.int .i64 k6), (.int .i64 k7), (.int .i64 k8), (.int .i64 k9), (.int .i64 k10), (.int .i64 k11), (.int .i64 k12), u0, u1, u2, u3, u4, u5, u6]⟩)) (.agg ⟨[(.int .i64 y), (.int .i64 mo), (.int .i64 ba), (.slice al nl cl), (.slice an nn cn), (.int .i64 fe), (.int .i64 re), (.int .i64 ta), (.int .i64 ad), (.int .i64 cu), (.int .i64 oc), (.int .i64 ic), (.int .i64 la), (.int .i64 lo), (.int .i64 ce), (.slice a0 n0 c0), (.slice a1 n1 c1), (.slice a2 n2 c2)]⟩)) (.agg ⟨[(.int .i64 y'), (.int .i64 mo'), (.int .i64 ba'), (.slice eal enl ecl), (.slice ean enn ecn), (.int .i64 fe'), (.int .i64 re'), (.int .i64 ta'), (.int .i64 ad'), (.int .i64 cu'), (.int .i64 oc'), (.int .i64 ic'), (.int .i64 la'), (.int .i64 lo'), (.int .i64 ce'), (.slice ea0 en0 ec0), (.slice ea1 en1 ec1), (.slice ea2 en2 ec2)]⟩)) (kB j0 j1 j2 j3 j4 j5 j6 j7 j8 j9 j10 j11 j12 (.raw v0) (.raw v1) (.raw v2) (.raw v3) (.raw v4) (.raw v5) (.raw v6))) (kB k0 k1 k2 k3 k4 k5 k6 k7 k8 k9 k10 k11 k12 (.raw u0) (.raw u1) (.raw u2) (.raw u3) (.raw u4) (.raw u5) (.raw u6))) (dB yr mor bar (rS ral rnl rcl) (rS ran rnn rcn) fer rer tar adr cur ocr icr lar lor cer (rS ra0 rn0 rc0) (rS ra1 rn1 rc1) (rS ra2 rn2 rc2)) := by show _ = _; kernel_rfl
theorem tree20m (y mo ba fe re ta ad cu oc ic la lo ce y' mo' ba' fe' re' ta' ad' cu' oc' ic' la' lo' ce' : Int) (al an a0 a1 a2 eal ean ea0 ea1 ea2 zal zan za0 za1 za2 xa ya wa ta_ : Option Addr) (nl nn n0 n1 n2 cl cn c0 c1 c2 enl enn en0 en1 en2 ecl ecn ec0 ec1 ec2 zcl zcn zc0 zc1 zc2 xn xc yn yc wn_ wc tn tc : Nat) (q : Bool) (q1 q2 q3 : Option Blk) (H X1 X2 X3 X4 X5 X6 X7 : Heap) : (fun (Z2 : It) => (fun (Z1 : It) => (fun (Z4 : It) => (fun (Z0 : SH) => (fun (Z3 : Operand) => (fun (Z5 : Value) => (fun (Z11 : Value) => (fun (Z14 : Value) => (fun (Z10 : Value) => (fun (Z12 : Value) => (fun (Z13 : Value) => (fun (Z6 : Operand) => (fun (Z7 : SH) => (fun (Z8 : SH) => (fun (Z9 : SH) => (fun (Z15 : SH) => (fun (Z16 : SH) => (fun (Z17 : Operand) => pieceS tbl (gE 0) (cE 0) 300 (fun i => (exL i r20_2 || resLv il20.res i)) c20_1 (.crs [none, some ((rS xa xn xc), ⟨[], [.seg X3]⟩), none, some ((rS ya yn yc), ⟨[], [.seg X4]⟩), none, none] (.use 26000027 (.raw (.tuple ⟨[Z5, (.int .i64 0)]⟩)) ⟨[], [.seg X5]⟩ (.crs [none, none, none, none, none, some ((sB true), ⟨[], []⟩), none, none, none, none, none, some ((sB q), ⟨[], []⟩), none, none, some ((sB q), ⟨[], []⟩), some ((sB false), ⟨[], []⟩), none, none, none, none, some ((rS wa wn_ wc), ⟨[], [.seg X6]⟩), some ((rS ta_ tn tc), ⟨[], [.seg X7]⟩), some ((sB true), ⟨[], []⟩), none, none] (.con .nil)))) (frS 136 [(5, (.ptr 3 0)), (6, (sB false)), (7, (.ptr 6 0)), (8, (.ptr 7 0))]) Z16 =
(.req true (.claim (opA (Plain.env tbl (gE 0)) (.call 67 [Z3]) [] (denH Z16) = some ((.slice xa xn xc), denH Z15))
 (.req true (.claim (opA (Plain.env tbl (gE 0)) (.call 67 [Z6]) [] (denH Z15) = some ((.slice ya yn yc), denH Z9))
 (.req true (.req true (.req ((decide (y' = y')) && ((decide (mo' = mo')) && ((decide (ba' = ba')) && ((eq0 Z10 Z10) && ((eq0 Z11 Z11) && ((decide (fe' = fe')) && ((decide (re' = re')) && ((decide (ta' = ta')) && ((decide (ad' = ad')) && ((decide (cu' = cu')) && ((decide (oc' = oc')) && ((decide (ic' = ic')) && ((decide (la' = la')) && ((decide (lo' = lo')) && ((decide (ce' = ce')) && ((eq0 Z12 Z12) && ((eq0 Z13 Z13) && ((eq0 Z14 Z14) && true)))))))))))))))))) (.claim (opA (Plain.env tbl (gE 0)) (.call 68 [Z17]) [] (denH Z9) = some ((.tuple ⟨[Z5, (.int .i64 0)]⟩), denH [.seg H, .raw q1, .raw q2, .raw q3, .seg X1, .seg X2, Z2, Z1, .seg X3, .seg X4, .seg X5]))
 (.req true (.req true (.req true (.req true (.req true (.claim (opA (Plain.env tbl (gE 0)) (.call 44 [(.const Z5), Z3]) [] (denH Z0) = some ((.bool true), denH Z0))
 (.req true (.req true (.req true (.req true (.req true (.claim (opA (Plain.env tbl (gE 0)) (.call 27 [Z17, (.const (.slice ya yn yc))]) [] (denH Z0) = some ((.bool q), denH Z0))
 (.req true (.req true (.claim (opA (Plain.env tbl (gE 0)) (.call 44 [Z3, Z6]) [] (denH Z0) = some ((.bool q), denH Z0))
 (.claim (opA (Plain.env tbl (gE 0)) (.eqv true .bool (.const (.bool q)) (.const (.bool q))) [] (denH Z0) = some ((.bool false), denH Z0))
 (.req true (.req true (.req true (.req true (.claim (opA (Plain.env tbl (gE 0)) (.call 69 [Z3]) [] (denH Z0) = some ((.slice wa wn_ wc), denH Z8))
 (.claim (opA (Plain.env tbl (gE 0)) (.call 34 [(.const (.slice wa wn_ wc))]) [] (denH Z8) = some ((.slice ta_ tn tc), denH Z7))
 (.claim (opA (Plain.env tbl (gE 0)) (.call 27 [Z17, (.const (.slice ta_ tn tc))]) [] (denH Z7) = some ((.bool true), denH Z7))
 (.req true (.req true (.req ((decide (y = y)) && ((decide (mo = mo)) && ((decide (ba = ba)) && ((eq0 (.slice al nl cl) (.slice al nl cl)) && ((eq0 (.slice an nn cn) (.slice an nn cn)) && ((decide (fe = fe)) && ((decide (re = re)) && ((decide (ta = ta)) && ((decide (ad = ad)) && ((decide (cu = cu)) && ((decide (oc = oc)) && ((decide (ic = ic)) && ((decide (la = la)) && ((decide (lo = lo)) && ((decide (ce = ce)) && ((eq0 (.slice a0 n0 c0) (.slice a0 n0 c0)) && ((eq0 (.slice a1 n1 c1) (.slice a1 n1 c1)) && ((eq0 (.slice a2 n2 c2) (.slice a2 n2 c2)) && true)))))))))))))))))) (.req ((decide (y' = y')) && ((decide (mo' = mo')) && ((decide (ba' = ba')) && ((eq0 Z10 Z10) && ((eq0 Z11 Z11) && ((decide (fe' = fe')) && ((decide (re' = re')) && ((decide (ta' = ta')) && ((decide (ad' = ad')) && ((decide (cu' = cu')) && ((decide (oc' = oc')) && ((decide (ic' = ic')) && ((decide (la' = la')) && ((decide (lo' = lo')) && ((decide (ce' = ce')) && ((eq0 Z12 Z12) && ((eq0 Z13 Z13) && ((eq0 Z14 Z14) && true)))))))))))))))))) (.ret .normal (frS 136 [(5, (.ptr 3 0)), (6, (sB false))]) Z7))))))))))))))))))))))))))))))))))))) (.const (.slice xa xn xc))) [.seg H, .raw q1, .raw q2, .raw q3, .seg X1, .seg X2, Z2, Z1]) [.seg H, .raw q1, .raw q2, .raw q3, .seg X1, .seg X2, Z2, Z1, .seg X3]) [.seg H, .raw q1, .raw q2, .raw q3, .seg X1, .seg X2, Z2, Z1, .seg X3, .seg X4]) [.seg H, .raw q1, .raw q2, .raw q3, .seg X1, .seg X2, Z2, Z1, .seg X3, .seg X4, .seg X5, Z4, .seg X6]) [.seg H, .raw q1, .raw q2, .raw q3, .seg X1, .seg X2, Z2, Z1, .seg X3, .seg X4, .seg X5, Z4, .seg X6, .seg X7]) (.const (.agg ⟨[(.int .i64 y'), (.int .i64 mo'), (.int .i64 ba'), Z10, Z11, (.int .i64 fe'), (.int .i64 re'), (.int .i64 ta'), (.int .i64 ad'), (.int .i64 cu'), (.int .i64 oc'), (.int .i64 ic'), (.int .i64 la'), (.int .i64 lo'), (.int .i64 ce'), Z12, Z13, Z14]⟩))) (.slice ea1 en1 ec1)) (.slice ea0 en0 ec0)) (.slice eal enl ecl)) (.slice ea2 en2 ec2)) (.slice ean enn ecn)) (.agg ⟨[(.int .i64 y), (.int .i64 mo), (.int .i64 ba), (.slice zal nl zcl), (.slice zan nn zcn), (.int .i64 fe), (.int .i64 re), (.int .i64 ta), (.int .i64 ad), (.int .i64 cu), (.int .i64 oc), (.int .i64 ic), (.int .i64 la), (.int .i64 lo), (.int .i64 ce), (.slice za0 n0 zc0), (.slice za1 n1 zc1), (.slice za2 n2 zc2)]⟩)) (.const (.agg ⟨[(.int .i64 y), (.int .i64 mo), (.int .i64 ba), (.slice al nl cl), (.slice an nn cn), (.int .i64 fe), (.int .i64 re), (.int .i64 ta), (.int .i64 ad), (.int .i64 cu), (.int .i64 oc), (.int .i64 ic), (.int .i64 la), (.int .i64 lo), (.int .i64 ce), (.slice a0 n0 c0), (.slice a1 n1 c1), (.slice a2 n2 c2)]⟩))) [.seg H, .raw q1, .raw q2, .raw q3, .seg X1, .seg X2, Z2, Z1, .seg X3, .seg X4, .seg X5, Z4]) (dB y mo ba (rS zal nl zcl) (rS zan nn zcn) fe re ta ad cu oc ic la lo ce (rS za0 n0 zc0) (rS za1 n1 zc1) (rS za2 n2 zc2))) (dB (y') (mo') (ba') (rS eal enl ecl) (rS ean enn ecn) (fe') (re') (ta') (ad') (cu') (oc') (ic') (la') (lo') (ce') (rS ea0 en0 ec0) (rS ea1 en1 ec1) (rS ea2 en2 ec2))) (dX al an a0 a1 a2 nl cl nn cn n0 c0 n1 c1 n2 c2 y mo ba fe re ta ad cu oc ic la lo ce) := by show _ = _; kernel_rfl
theorem tree20c (y mo ba fe re ta ad cu oc ic la lo ce ml mn_ m0 m1 m2 : Int) (ral ran ra0 ra1 ra2 wal wan wa0 wa1 wa2 : Option Addr) (rnl rnn rn0 rn1 rn2 rcl rcn rc0 rc1 rc2 wnl wnn wn0 wn1 wn2 wcl wcn wc0 wc1 wc2 : Nat) (q1 q2 : Option Blk) (H G : Heap) : (fun (Z7 : SV) => (fun (Z11 : SV) => (fun (Z0 : SH) => (fun (Z6 : SV) => (fun (Z4 : SV) => (fun (Z1 : SH) => (fun (Z9 : SV) => (fun (Z2 : SH) => (fun (Z3 : SH) => (fun (Z5 : IK) => (fun (Z8 : Value) => (fun (Z10 : SFr) => pieceS tbl (gE 0) (cE 0) 600 (fun i => (exL i r20_3 || resLv il20.res i)) c20_2 (.crs [none, none, none, none, none, some ((sI ml), ⟨[], []⟩), some (Z4, ⟨[], []⟩), none, none, none, none, none, some ((sI mn_), ⟨[], []⟩), some (Z6, ⟨[], []⟩), none, none, none, none] (.con (.pur 32000084 (.int .i64 m0) (.use 17000085 Z9 ⟨[], []⟩ (.con (.pur 32000084 (.int .i64 m1) (.use 17000085 (rS wa1 wn1 wc1) ⟨[], []⟩ (.con (.pur 32000084 (.int .i64 m2) (.use 17000085 (rS wa2 wn2 wc2) ⟨[], []⟩ (.con .nil))))))))))) Z10 Z0 =
(.req true (.req true (.req true (.req true (.req true (.claim (opA (Plain.env tbl (gE 0)) (.mn (kI (rnl : Int)) (kI 9)) [] (denH Z0) = some ((.int .i64 ml), denH Z0))
 (.claim (opA (Plain.env tbl (gE 0)) (.slice 2 (.const (.slice ral rnl rcl)) none (some (kI ml)) none) [] (denH Z0) = some ((.slice wal wnl wcl), denH Z0))
 (.req true (.req true (.req true (.req true (.req true (.claim (opA (Plain.env tbl (gE 0)) (.mn (kI (rnn : Int)) (kI 9)) [] (denH Z0) = some ((.int .i64 mn_), denH Z0))
 (.claim (opA (Plain.env tbl (gE 0)) Z5 [] (denH Z0) = some (Z8, denH Z0))
 (.req true (.req true (.req true (.req true (.claim ((∃ h2, opA (Plain.env tbl (gE 0)) Z5 [] (denH [.seg H, .raw q1, .raw q2, (dB y mo ba Z4 (rS ran rnn rcn) fe re ta ad cu oc ic la lo ce (rS ra0 rn0 rc0) Z11 Z7), .seg G]) = some (Z8, h2)) ∧ eqV Z8 Z8 = true)
 (.req true (.claim (opA (Plain.env tbl (gE 0)) (.mn (kI (rn0 : Int)) (kI 9)) [] [] = some ((.int .i64 m0), []))
 (.claim (opA (Plain.env tbl (gE 0)) (.slice 2 (.const (.slice ra0 rn0 rc0)) none (some (kI m0)) none) [] (denH Z1) = some ((.slice wa0 wn0 wc0), denH Z1))
 (.req true (.claim (opA (Plain.env tbl (gE 0)) (.mn (kI (rn1 : Int)) (kI 9)) [] [] = some ((.int .i64 m1), []))
 (.claim (opA (Plain.env tbl (gE 0)) (.slice 2 (.const (.slice ra1 rn1 rc1)) none (some (kI m1)) none) [] (denH Z2) = some ((.slice wa1 wn1 wc1), denH Z2))
 (.req true (.claim (opA (Plain.env tbl (gE 0)) (.mn (kI (rn2 : Int)) (kI 9)) [] [] = some ((.int .i64 m2), []))
 (.claim (opA (Plain.env tbl (gE 0)) (.slice 2 (.const (.slice ra2 rn2 rc2)) none (some (kI m2)) none) [] (denH Z3) = some ((.slice wa2 wn2 wc2), denH Z3))
 (.ret .normal Z10 [.seg H, .raw q1, .raw q2, (dB y mo ba Z4 Z6 fe re ta ad cu oc ic la lo ce Z9 (rS wa1 wn1 wc1) (rS wa2 wn2 wc2)), .seg G])))))))))))))))))))))))))))))) (frS 136 [(5, (.ptr 3 0)), (6, (sB false))])) (.slice wan wnn wcn)) (.slice 3 (.const (.slice ran rnn rcn)) none (some (kI mn_)) none)) [.seg H, .raw q1, .raw q2, (dB y mo ba Z4 Z6 fe re ta ad cu oc ic la lo ce Z9 (rS wa1 wn1 wc1) Z7), .seg G]) [.seg H, .raw q1, .raw q2, (dB y mo ba Z4 Z6 fe re ta ad cu oc ic la lo ce Z9 Z11 Z7), .seg G]) (rS wa0 wn0 wc0)) [.seg H, .raw q1, .raw q2, (dB y mo ba Z4 Z6 fe re ta ad cu oc ic la lo ce (rS ra0 rn0 rc0) Z11 Z7), .seg G]) (rS wal wnl wcl)) (rS wan wnn wcn)) [.seg H, .raw q1, .raw q2, (dB y mo ba (rS ral rnl rcl) (rS ran rnn rcn) fe re ta ad cu oc ic la lo ce (rS ra0 rn0 rc0) Z11 Z7), .seg G]) (rS ra1 rn1 rc1)) (rS ra2 rn2 rc2) := by show _ = _; kernel_rfl
theorem eq0_sl (a : Option Addr) (n c : Nat) : eq0 (.slice a n c) (.slice a n c) = true := by cases a <;> simp [eq0]
theorem right_sm {d : DV} (h : rightB d = true) : d.sm := by
 have lm := DE.right_lim h
 exact ⟨Nat.le_trans lm.l (by decide), Nat.le_trans lm.n (by decide), Nat.le_trans lm.s0 (by decide), Nat.le_trans lm.s1 (by decide), Nat.le_trans lm.s2 (by decide)⟩
theorem nqvb (Γ : Env) (r : Bool) (h : Heap) : opA Γ (.eqv true .bool (.const (.bool r)) (.const (.bool r))) [] h = some (.bool false, h) := by cases r <;> rfl
theorem mn_h (Γ : Env) (n : Nat) (h : Heap) : opA Γ (.mn (kI n) (kI 9)) [] h = some (.int .i64 (min n 9 : Nat), h) := by
 have q : (if (9 : Int) < (n : Int) then (9 : Int) else n) = ((min n 9 : Nat) : Int) := by split <;> omega
 simp [opA, pureA, ev, q]
theorem slice_more {Γ : Env} {A : Heap} {w : Nat} {x v : Value} {lo hi : Option Operand} (e : opA Γ (.slice w (.const x) lo hi none) [] A = some (v, A)) (Z : Heap) : opA Γ (.slice w (.const x) lo hi none) [] (A ++ Z) = some (v, A ++ Z) := by
 simp only [opA, pureA] at e ⊢
 cases q : sliceA w A (ev [] (.const x)) (lo.map (ev [])) (hi.map (ev [])) none with
 | none => simp [q] at e
 | some u =>
  simp [q] at e
  have := pureA_more (k := .slice w (.const x) lo hi none) (t := []) (h := A) (L := Z) (v := u) (by simp only [pureA]; exact q)
  simp only [pureA] at this
  simp at this
  simp [this, e]
theorem slice_up {Γ : Env} {A : Heap} {w : Nat} {x v : Value} {lo hi : Option Operand} (e : opA Γ (.slice w (.const x) lo hi none) [] A = some (v, A)) (X : SH) : opA Γ (.slice w (.const x) lo hi none) [] (denH (.seg A :: X)) = some (v, denH (.seg A :: X)) := by
 obtain ⟨R, q⟩ := denH_up (I := [.seg A]) rfl X
 have q0 : denH [.seg A] = A := by simp [denH, denL, It.den]
 rw [q0] at q
 rw [show denH (.seg A :: X) = A ++ R from q]
 exact slice_more e R
theorem cut9 {α : Type} {enc : α → List Value} {w : Nat} {H : Heap} {a : Option Addr} {c : Nat} {l : List α} (h : RowsW w H (.slice a l.length c) (l.map enc)) : ∃ a' c', (∀ Γ (X : SH), opA Γ (.slice w (.const (.slice a l.length c)) none (some (kI (min l.length 9 : Nat))) none) [] (denH (.seg H :: X)) = some (.slice a' (l.take 9).length c', denH (.seg H :: X))) ∧ RowsW w H (.slice a' (l.take 9).length c') ((l.take 9).map enc) := by
 obtain ⟨v, t, r⟩ := h.cutM (lo := 0) (hi := min l.length 9) (by omega) (by omega) none (some (kI (min l.length 9 : Nat))) (.inl ⟨rfl, rfl⟩) (.inr rfl)
 rw [List.drop_zero] at r
 have e : l.take (min l.length 9) = l.take 9 := by
  rcases Nat.le_total l.length 9 with q | q
  ·rw [Nat.min_eq_left q, List.take_of_length_le (Nat.le_refl _), List.take_of_length_le q]
  ·rw [Nat.min_eq_right q]
 rw [e] at r
 obtain ⟨a', c', rfl⟩ := r.slcM
 exact ⟨a', c', fun Γ X => slice_up (t Γ) X, r⟩
def cutD (r : DV) : DV := { r with l := r.l.take 9, n := r.n.take 9, s0 := r.s0.take 9, s1 := r.s1.take 9, s2 := r.s2.take 9 }
theorem cutD_nine (r : DV) : Nine (cutD r) := ⟨List.length_take_le _ _, List.length_take_le _ _, List.length_take_le _ _, List.length_take_le _ _, List.length_take_le _ _⟩
theorem cutD_in {r : DV} (h : DIn r) : DIn (cutD r) := ⟨h.h, fun x hx => h.l x (List.mem_of_mem_take hx), fun x hx => h.n x (List.mem_of_mem_take hx), fun x hx => h.s0 x (List.mem_of_mem_take hx), fun x hx => h.s1 x (List.mem_of_mem_take hx), fun x hx => h.s2 x (List.mem_of_mem_take hx)⟩
theorem cutS {H G : Heap} {q1 q2 : Option Blk} {d : DV} {al an a0 a1 a2 : Option Addr} {cl cn c0 c1 c2 : Nat} {Q : Post2}
  (hl : RowsW 2 H (.slice al d.l.length cl) (d.l.map e2)) (hn : RowsW 3 H (.slice an d.n.length cn) (d.n.map e3)) (h0 : RowsW 2 H (.slice a0 d.s0.length c0) (d.s0.map e2)) (h1 : RowsW 2 H (.slice a1 d.s1.length c1) (d.s1.map e2)) (h2 : RowsW 2 H (.slice a2 d.s2.length c2) (d.s2.map e2))
  (fin : ∀ (e : DV) (eal ean ea0 ea1 ea2 : Option Addr) (ecl ecn ec0 ec1 ec2 : Nat), e = cutD d → DlW (denH [.seg H, .raw q1, .raw q2, dD e eal ean ea0 ea1 ea2 ecl ecn ec0 ec1 ec2, .seg G]) (dVal eal ean ea0 ea1 ea2 e.l.length ecl e.n.length ecn e.s0.length ec0 e.s1.length ec1 e.s2.length ec2 e) e →
   Wp (Plain.env tbl (gE 0)) (resLv il20.res) r20_3 (denF [.seg H, .raw q1, .raw q2, dD e eal ean ea0 ea1 ea2 ecl ecn ec0 ec1 ec2, .seg G] (frS 136 [(5, (.ptr 3 0)), (6, (sB false))])) (denH [.seg H, .raw q1, .raw q2, dD e eal ean ea0 ea1 ea2 ecl ecn ec0 ec1 ec2, .seg G]) Q) :
  Wp (Plain.env tbl (gE 0)) (resLv il20.res) r20_2 (denF [.seg H, .raw q1, .raw q2, dD d al an a0 a1 a2 cl cn c0 c1 c2, .seg G] (frS 136 [(5, (.ptr 3 0)), (6, (sB false))])) (denH [.seg H, .raw q1, .raw q2, dD d al an a0 a1 a2 cl cn c0 c1 c2, .seg G]) Q := by
 obtain ⟨bl, dl, tl, rl⟩ := cut9 hl
 obtain ⟨bn, dn, tn, rn⟩ := cut9 hn
 obtain ⟨b0, d0, t0, r0⟩ := cut9 h0
 obtain ⟨b1, d1, t1, r1⟩ := cut9 h1
 obtain ⟨b2, d2, t2, r2⟩ := cut9 h2
 refine Wp.split' (n := 1) (p := c20_2) (q := r20_3) (lv' := fun i => (exL i r20_3 || resLv il20.res i)) (by kernel_rfl) (fun i q => q) ?_
 have tr : _ = _ := tree20c d.y d.mo d.ba d.fe d.re d.ta d.ad d.cu d.oc d.ic d.la d.lo d.ce (min d.l.length 9 : Nat) (min d.n.length 9 : Nat) (min d.s0.length 9 : Nat) (min d.s1.length 9 : Nat) (min d.s2.length 9 : Nat) al an a0 a1 a2 bl bn b0 b1 b2 d.l.length d.n.length d.s0.length d.s1.length d.s2.length cl cn c0 c1 c2 (d.l.take 9).length (d.n.take 9).length (d.s0.take 9).length (d.s1.take 9).length (d.s2.take 9).length dl dn d0 d1 d2 q1 q2 H G
 refine Wp.tree (cE_ok 0) tr ⟨by kernel_rfl, by kernel_rfl⟩ ⟨rfl, rfl, rfl, rfl, rfl, mn_h _ _ _, tl _ _, rfl, rfl, rfl, rfl, rfl, mn_h _ _ _, tn _ _, rfl, rfl, rfl, rfl, ⟨⟨_, tn _ _⟩, eqV_slc _ _ _⟩, rfl, mn_h _ _ _, t0 _ _, rfl, mn_h _ _ _, t1 _ _, rfl, mn_h _ _ _, t2 _ _, ?_⟩
 exact fin (cutD d) bl bn b0 b1 b2 dl dn d0 d1 d2 rfl ⟨_, _, _, _, _, _, _, _, _, _, rfl, D.up1 rl _, D.up1 rn _, D.up1 r0 _, D.up1 r1 _, D.up1 r2 _⟩
set_option maxHeartbeats 2000000 in
theorem mid {H X1 X2 : Heap} {q1 q2 q3 : Option Blk} {d e : DV} {al an a0 a1 a2 eal ean ea0 ea1 ea2 : Option Addr} {cl cn c0 c1 c2 ecl ecn ec0 ec1 ec2 : Nat} {Q : Post2}
  (hd : DlW (denH [.seg H, .raw q1, .raw q2, .raw q3, .seg X1, .seg X2, dD d al an a0 a1 a2 cl cn c0 c1 c2, dD e eal ean ea0 ea1 ea2 ecl ecn ec0 ec1 ec2]) (dVal al an a0 a1 a2 d.l.length cl d.n.length cn d.s0.length c0 d.s1.length c1 d.s2.length c2 d) d) (he : DlW (denH [.seg H, .raw q1, .raw q2, .raw q3, .seg X1, .seg X2, dD d al an a0 a1 a2 cl cn c0 c1 c2, dD e eal ean ea0 ea1 ea2 ecl ecn ec0 ec1 ec2]) (dVal eal ean ea0 ea1 ea2 e.l.length ecl e.n.length ecn e.s0.length ec0 e.s1.length ec1 e.s2.length ec2 e) e)
  (rd : rightB d = true) (re : rightB e = true) (id : DIn d) (ie : DIn e)
  (fin : ∀ G : Heap, Wp (Plain.env tbl (gE 0)) (resLv il20.res) r20_2 (denF [.seg H, .raw q1, .raw q2, .raw q3, .seg G] (frS 136 [(5, (.ptr 3 0)), (6, (sB false))])) (denH [.seg H, .raw q1, .raw q2, .raw q3, .seg G]) Q) :
  Wp (Plain.env tbl (gE 0)) (resLv il20.res) r20_1 (denF [.seg H, .raw q1, .raw q2, .raw q3, .seg X1, .seg X2, dD d al an a0 a1 a2 cl cn c0 c1 c2, dD e eal ean ea0 ea1 ea2 ecl ecn ec0 ec1 ec2] (frS 136 [(5, (.ptr 3 0)), (6, (sB false)), (7, (.ptr 6 0)), (8, (.ptr 7 0))])) (denH [.seg H, .raw q1, .raw q2, .raw q3, .seg X1, .seg X2, dD d al an a0 a1 a2 cl cn c0 c1 c2, dD e eal ean ea0 ea1 ea2 ecl ecn ec0 ec1 ec2]) Q := by
 have smd := right_sm rd
 have sme := right_sm re
 have ed : encD d = byt (dealI d) := by unfold encD; rw [rd, if_pos rfl]
 have ee : encD e = byt (dealI e) := by unfold encD; rw [re, if_pos rfl]
 have bd := DZ.right_bnd rd
 have ind := DZ.right_in id bd
 have nd : (byt (dealI d)).length ≤ 100000 := by
  have l1 := bd.l
  have l2 := bd.n
  have l3 := bd.s0
  have l4 := bd.s1
  have l5 := bd.s2
  rw [byt_len, DE.dealI_len]; omega
 obtain ⟨xa, xc, X3, g1, r3⟩ := DE.E67.use (I := [.seg H, .raw q1, .raw q2, .raw q3, .seg X1, .seg X2, dD d al an a0 a1 a2 cl cn c0 c1 c2, dD e eal ean ea0 ea1 ea2 ecl ecn ec0 ec1 ec2]) rfl hd smd
 obtain ⟨ya, yc, X4, g2, r4⟩ := DE.E67.use (I := [.seg H, .raw q1, .raw q2, .raw q3, .seg X1, .seg X2, dD d al an a0 a1 a2 cl cn c0 c1 c2, dD e eal ean ea0 ea1 ea2 ecl ecn ec0 ec1 ec2, .seg X3]) rfl (DlW.up he rfl [.seg X3]) sme
 rw [ed] at g1 r3
 rw [ee] at g2 r4
 obtain ⟨v, X5, g3, hz⟩ := use68 (I := [.seg H, .raw q1, .raw q2, .raw q3, .seg X1, .seg X2, dD d al an a0 a1 a2 cl cn c0 c1 c2, dD e eal ean ea0 ea1 ea2 ecl ecn ec0 ec1 ec2, .seg X3, .seg X4]) rfl (r3.up rfl [.seg X4]) (by omega)
 rw [DZ.decD_byt ind bd, if_pos rd] at g3 hz
 have hz' := hz
 obtain ⟨zal, zan, za0, za1, za2, zcl, zcn, zc0, zc1, zc2, rfl, _⟩ := hz'
 have hd2 : DlW (denH [.seg H, .raw q1, .raw q2, .raw q3, .seg X1, .seg X2, dD d al an a0 a1 a2 cl cn c0 c1 c2, dD e eal ean ea0 ea1 ea2 ecl ecn ec0 ec1 ec2, .seg X3, .seg X4, .seg X5, dD d zal zan za0 za1 za2 zcl zcn zc0 zc1 zc2]) (dVal al an a0 a1 a2 d.l.length cl d.n.length cn d.s0.length c0 d.s1.length c1 d.s2.length c2 d) d := DlW.up hd rfl [.seg X3, .seg X4, .seg X5, dD d zal zan za0 za1 za2 zcl zcn zc0 zc1 zc2]
 have he2 : DlW (denH [.seg H, .raw q1, .raw q2, .raw q3, .seg X1, .seg X2, dD d al an a0 a1 a2 cl cn c0 c1 c2, dD e eal ean ea0 ea1 ea2 ecl ecn ec0 ec1 ec2, .seg X3, .seg X4, .seg X5, dD d zal zan za0 za1 za2 zcl zcn zc0 zc1 zc2]) (dVal eal ean ea0 ea1 ea2 e.l.length ecl e.n.length ecn e.s0.length ec0 e.s1.length ec1 e.s2.length ec2 e) e := DlW.up he rfl [.seg X3, .seg X4, .seg X5, dD d zal zan za0 za1 za2 zcl zcn zc0 zc1 zc2]
 have g4 := K.call44g (DlW.up hz rfl [dD d zal zan za0 za1 za2 zcl zcn zc0 zc1 zc2]) hd2 smd
 rw [K.eqD_t] at g4
 have g5 := callSame br_1 (r3.up rfl [.seg X4, .seg X5, dD d zal zan za0 za1 za2 zcl zcn zc0 zc1 zc2]) (r4.up rfl [.seg X5, dD d zal zan za0 za1 za2 zcl zcn zc0 zc1 zc2]) (by omega)
 have g6 := K.call44g hd2 he2 smd
 have eq : same (byt (dealI d)) (byt (dealI e)) = K.eqD d e := by
  by_cases q : d = e
  ·subst q; rw [K.eqD_t, same_t rfl]
  ·rw [K.eqD_f q, same_f fun h => q (DZ.enc_inj id ie rd re h)]
 rw [eq] at g5
 obtain ⟨wa, wn, wc, X6, g7, r6⟩ := DE.E69.use (I := [.seg H, .raw q1, .raw q2, .raw q3, .seg X1, .seg X2, dD d al an a0 a1 a2 cl cn c0 c1 c2, dD e eal ean ea0 ea1 ea2 ecl ecn ec0 ec1 ec2, .seg X3, .seg X4, .seg X5, dD d zal zan za0 za1 za2 zcl zcn zc0 zc1 zc2]) rfl hd2 (DE.right_lim rd)
 obtain ⟨ta, tc, X7, g8, r7⟩ := useB (I := [.seg H, .raw q1, .raw q2, .raw q3, .seg X1, .seg X2, dD d al an a0 a1 a2 cl cn c0 c1 c2, dD e eal ean ea0 ea1 ea2 ecl ecn ec0 ec1 ec2, .seg X3, .seg X4, .seg X5, dD d zal zan za0 za1 za2 zcl zcn zc0 zc1 zc2, .seg X6]) rfl r6 (by rw [byt_len] at nd; omega)
 have g9 := callSame br_1 (r3.up rfl [.seg X4, .seg X5, dD d zal zan za0 za1 za2 zcl zcn zc0 zc1 zc2, .seg X6, .seg X7]) r7 (by omega)
 rw [same_t rfl] at g9
 refine Wp.split' (n := 2) (p := c20_1) (q := r20_2) (lv' := fun i => (exL i r20_2 || resLv il20.res i)) (by kernel_rfl) (fun i q => q) ?_
 have tr : _ = _ := tree20m d.y d.mo d.ba d.fe d.re d.ta d.ad d.cu d.oc d.ic d.la d.lo d.ce e.y e.mo e.ba e.fe e.re e.ta e.ad e.cu e.oc e.ic e.la e.lo e.ce al an a0 a1 a2 eal ean ea0 ea1 ea2 zal zan za0 za1 za2 xa ya wa ta d.l.length d.n.length d.s0.length d.s1.length d.s2.length cl cn c0 c1 c2 e.l.length e.n.length e.s0.length e.s1.length e.s2.length ecl ecn ec0 ec1 ec2 zcl zcn zc0 zc1 zc2 (byt (dealI d)).length xc (byt (dealI e)).length yc wn wc (byt (dealI d)).length tc (K.eqD d e) q1 q2 q3 H X1 X2 X3 X4 X5 X6 X7
 refine Wp.tree (cE_ok 0) tr ⟨by kernel_rfl, by kernel_rfl⟩ ⟨rfl, call (args := [_]) rfl g1, rfl, call (args := [_]) rfl g2, rfl, rfl, by simp [eq0_sl], call (args := [_]) rfl g3, rfl, rfl, rfl, rfl, rfl, call (args := [_, _]) rfl g4, rfl, rfl, rfl, rfl, rfl, call (args := [_, _]) rfl g5, rfl, rfl, call (args := [_, _]) rfl g6, nqvb _ _ _, rfl, rfl, rfl, rfl, call (args := [_]) rfl g7, call (args := [_]) rfl g8, call (args := [_, _]) rfl g9, rfl, rfl, by simp [eq0_sl], by simp [eq0_sl], ?_⟩
 obtain ⟨G, eG⟩ : ∃ G : Heap, G = X1 ++ (X2 ++ (denL (fun _ => 0) [dD d al an a0 a1 a2 cl cn c0 c1 c2, dD e eal ean ea0 ea1 ea2 ecl ecn ec0 ec1 ec2] ++ (X3 ++ (X4 ++ (X5 ++ (denL (fun _ => 0) [dD d zal zan za0 za1 za2 zcl zcn zc0 zc1 zc2] ++ (X6 ++ X7))))))) := ⟨_, rfl⟩
 have e1 : denH [.seg H, .raw q1, .raw q2, .raw q3, .seg X1, .seg X2, dD d al an a0 a1 a2 cl cn c0 c1 c2, dD e eal ean ea0 ea1 ea2 ecl ecn ec0 ec1 ec2, .seg X3, .seg X4, .seg X5, dD d zal zan za0 za1 za2 zcl zcn zc0 zc1 zc2, .seg X6, .seg X7] = denH [.seg H, .raw q1, .raw q2, .raw q3, .seg G] := by rw [eG]; simp [denH, denL, It.den, den0]
 have e2 : denF [.seg H, .raw q1, .raw q2, .raw q3, .seg X1, .seg X2, dD d al an a0 a1 a2 cl cn c0 c1 c2, dD e eal ean ea0 ea1 ea2 ecl ecn ec0 ec1 ec2, .seg X3, .seg X4, .seg X5, dD d zal zan za0 za1 za2 zcl zcn zc0 zc1 zc2, .seg X6, .seg X7] (frS 136 [(5, (.ptr 3 0)), (6, (sB false))]) = denF [.seg H, .raw q1, .raw q2, .raw q3, .seg G] (frS 136 [(5, (.ptr 3 0)), (6, (sB false))]) := by show denF _ _ = denF _ _; kernel_rfl
 show Wp (Plain.env tbl (gE 0)) (resLv il20.res) r20_2 (denF [.seg H, .raw q1, .raw q2, .raw q3, .seg X1, .seg X2, dD d al an a0 a1 a2 cl cn c0 c1 c2, dD e eal ean ea0 ea1 ea2 ecl ecn ec0 ec1 ec2, .seg X3, .seg X4, .seg X5, dD d zal zan za0 za1 za2 zcl zcn zc0 zc1 zc2, .seg X6, .seg X7] (frS 136 [(5, (.ptr 3 0)), (6, (sB false))])) (denH [.seg H, .raw q1, .raw q2, .raw q3, .seg X1, .seg X2, dD d al an a0 a1 a2 cl cn c0 c1 c2, dD e eal ean ea0 ea1 ea2 ecl ecn ec0 ec1 ec2, .seg X3, .seg X4, .seg X5, dD d zal zan za0 za1 za2 zcl zcn zc0 zc1 zc2, .seg X6, .seg X7]) Q
 rw [e1, e2]
 exact fin G
end T20
end Go.Proofs.Ytgdojnamjkhknaa
