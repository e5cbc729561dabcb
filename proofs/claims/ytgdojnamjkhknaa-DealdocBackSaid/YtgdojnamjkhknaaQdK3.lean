/-
  keep: a deal of numbers: its steps.
-/
import Derived.Test.YtgdojnamjkhknaaQdK2
namespace Go.Proofs.Ytgdojnamjkhknaa
open Go.Am
set_option linter.all false
set_option maxRecDepth 100000
namespace K
namespace E1
def body41_6 : IL := .seq (.seq (.reg [ oT 122 (.mov (.tmp 11)), oT 123 (.mov (.tmp 9)), oT 124 (.fadr 17 (.tmp 1)), oT 125 (.iadr 1 (some 3) (.tmp 124) (.tmp 123)), oT 126 (.load (.tmp 125) none), oT 127 (.len (.tmp 126)), oT 128 (.bin .lss (.tmp 122) (.tmp 127)), oT 129 (.mov (.tmp 128)), ⟨(some 130), (some (129, true)), .mov (.tmp 11)⟩, ⟨(some 131), (some (129, true)), .bin .lss (.tmp 130) (kI 12)⟩, oT 132 (.pick (.tmp 129) (.tmp 131) (.const (.bool false)))]) (.ite (.tmp 132) (.skip) (.exit 6))) (.seq (.block 7 (.seq (.reg [ oT 135 (.mov (.tmp 9)), oT 136 (.fadr 17 (.tmp 1)), oT 137 (.iadr 1 (some 3) (.tmp 136) (.tmp 135)), oT 138 (.load (.tmp 137) none), oT 139 (.mov (.tmp 11)), oT 140 (.iadr 1 none (.tmp 138) (.tmp 139)), oT 141 (.load (.tmp 140) none), oT 142 (.call 30 [(.tmp 141), (kI 1), (kI 7)]), oT 143 (.build [(.int .i64 0), (.int .i64 0)] [(0, 1, (.tmp 142))]), oT 12 (.alloc [(.int .i64 0), (.int .i64 0)]), oN (.store (.tmp 12) (.tmp 143) 2)]) (.seq (.seq (.reg [ oT 144 (.fadr 0 (.tmp 12)), oT 145 (.load (.tmp 144) none), oT 146 (.bin .eql (.tmp 145) (kI 3))]) (.ite (.tmp 146) (.reg [ oT 147 (.mov (.tmp 9)), oT 148 (.fadr 17 (.tmp 1)), oT 149 (.iadr 1 (some 3) (.tmp 148) (.tmp 147)), oT 150 (.load (.tmp 149) none), oT 151 (.mov (.tmp 11)), oT 152 (.iadr 1 none (.tmp 150) (.tmp 151)), oT 153 (.load (.tmp 152) none), oT 154 (.bin .quo (.tmp 153) (kI 7)), oT 155 (.call 30 [(.tmp 154), (kI 0), (kI 3)]), oT 156 (.fadr 1 (.tmp 12)), oN (.store (.tmp 156) (.tmp 155) 1)]) (.skip))) (.seq (.reg [ oT 13 (.mov (.const (.bool false)))]) (.seq (.seq (.reg [ oT 157 (.mov (.tmp 10)), oT 158 (.len (.tmp 157)), oT 159 (.mov (kI 0))]) (.block 8 (.loop (.seq (.reg [ oT 160 (.bin .lss (.tmp 159) (.tmp 158))]) (.seq (.ite (.tmp 160) (.skip) (.exit 8)) (.seq (.block 9 (.seq (.reg [ oT 161 (.iadr 2 none (.tmp 157) (.tmp 159)), oT 162 (.load (.tmp 161) (some 2)), oT 15 (.alloc [(.int .i64 0), (.int .i64 0)]), oN (.store (.tmp 15) (.tmp 162) 2)]) (.reg [ oT 163 (.mov (.tmp 13)), oT 164 (.mov (.tmp 163)), ⟨(some 165), (some (164, false)), .load (.tmp 15) (some 2)⟩, ⟨(some 166), (some (164, false)), .load (.tmp 12) (some 2)⟩, ⟨(some 167), (some (164, false)), .eqv false (.cells [false, false]) (.tmp 165) (.tmp 166)⟩, oT 168 (.pick (.tmp 164) (.const (.bool true)) (.tmp 167)), oT 13 (.mov (.tmp 168))]))) (.reg [ oT 169 (.bin .add (.tmp 159) (kI 1)), oT 159 (.mov (.tmp 169))]))))))) (.seq (.reg [ oT 170 (.mov (.tmp 13)), oT 171 (.un .not (.tmp 170))]) (.ite (.tmp 171) (.reg [ oT 172 (.mov (.tmp 10)), oT 173 (.load (.tmp 12) (some 2)), oT 174 (.mkrow [(.int .i64 0), (.int .i64 0)] 1 [(0, 2, (.tmp 173))]), oT 175 (.append 2 16 (.tmp 172) (.tmp 174)), oT 10 (.mov (.tmp 175))]) (.skip)))))))) (.reg [ oT 133 (.mov (.tmp 11)), oT 134 (.bin .add (.tmp 133) (kI 1)), oT 11 (.mov (.tmp 134))]))
theorem tree41s0 (k0 k1 k2 k3 k4 k5 k6 k7 k8 k9 k10 k11 k12 d0 d1 d2 d3 d4 d5 d6 d7 d8 d9 d10 d11 d12 : Int) (u0 u1 u2 u3 u4 u5 u6 L N S0 S1 S2 : Value) (as_ al a2 : Option Addr) (ns cs nl cl n2 c2 : Nat) (i x0 : Int) (q : Bool) (b1 o1 : Nat) (H Y J J2 K X : Heap) : (fun (Z0 : It) => (fun (Z1 : It) => (fun (Z2 : SV) => (fun (Z3 : SFr) => (fun (Z4 : SV) => (fun (Z5 : SFr) => (fun (Z6 : SFr) => (fun (Z7 : SFr) => (fun (Z8 : SH) => (fun (Z9 : SH) => (fun (Z10 : SFr) => (fun (Z11 : SH) => (fun (Z12 : SH) => (fun (Z13 : SH) => (fun (Z14 : SH) => (fun (Z15 : SH) => (fun (Z16 : IK) => (fun (Z17 : SH) => pieceS tblK (gE 0) (cE 0) 100 (fun i => exL i body41_6 || inL [1, 2, 3, 9, 10, 119] i) body41_6 (.join 3 (.con (.con (.con .nil))) (.con (.con (.con .nil))) (.sym (.pur 22000140 (.pointer (some ⟨b1, o1, none⟩)) (.bas 7000141 (.int .i64 x0) (.sym (.pur 22000152 (.pointer (some ⟨b1, o1, none⟩)) (.bas 7000153 (.int .i64 x0) (.lp 8 [1, 2, 3, 9, 10, 11, 12, 13, 119] Z3 ⟨[], [.seg K]⟩ (.sym (.use 30000175 (rS a2 n2 c2) ⟨[(5, .seg J2)], [.seg X]⟩ .nil) .nil)))) (.lp 8 [1, 2, 3, 9, 10, 11, 12, 13, 119] Z3 ⟨[], [.seg K]⟩ (.sym (.use 30000175 (rS a2 n2 c2) ⟨[(5, .seg J2)], [.seg X]⟩ .nil) .nil))))) .nil)) Z10 [.seg H, Z0, dZ, Z1, .seg Y, .seg J] =
(.req (bif (decide (i < (ns : Int))) then true else true) (.br (bif (decide (i < (ns : Int))) then (decide (i < 12)) else false)
 (.claim (opA (Plain.env tblK (gE 0)) (.iadr 1 none (.const (.slice as_ ns cs)) (kI i)) [] [] = some ((.pointer (some ⟨b1, o1, none⟩)), []))
 (.claim (opA (Plain.env tblK (gE 0)) Z16 [] H = some ((.int .i64 x0), H))
 (.req (preWithin 1 7) (.br ((wn x0 1 7) == 3)
 (.claim (opA (Plain.env tblK (gE 0)) (.iadr 1 none (.const (.slice as_ ns cs)) (kI i)) [] [] = some ((.pointer (some ⟨b1, o1, none⟩)), []))
 (.claim (opA (Plain.env tblK (gE 0)) Z16 [] H = some ((.int .i64 x0), H))
 (.req true (.req (preWithin 0 3) (.claim (Wp (Plain.env tblK (gE 0)) (inL [1, 2, 3, 9, 10, 11, 12, 13, 119]) (.block 8 (.loop body41_8)) (denF Z17 Z5) (denH Z17) fun e_ s_ h_ => e_ = .normal ∧ s_ = denF Z9 Z3 ∧ h_ = denH Z9)
 (.br (!q)
 (.claim (List.length J2 = List.length J) (.claim (opA (Plain.env tblK (gE 0)) (.append 2 16 (.const (.slice al nl cl)) (.const (denV (ofs Z14) (.sl 8 0 1 1)))) [] (denH Z14) = some ((.slice a2 n2 c2), denH Z12))
 (.ret .normal Z6 Z12)))
 (.ret .normal Z7 Z9)))))))
 (.claim (Wp (Plain.env tblK (gE 0)) (inL [1, 2, 3, 9, 10, 11, 12, 13, 119]) (.block 8 (.loop body41_8)) (denF Z15 Z5) (denH Z15) fun e_ s_ h_ => e_ = .normal ∧ s_ = denF Z8 Z3 ∧ h_ = denH Z8)
 (.br (!q)
 (.claim (List.length J2 = List.length J) (.claim (opA (Plain.env tblK (gE 0)) (.append 2 16 (.const (.slice al nl cl)) (.const (denV (ofs Z13) (.sl 8 0 1 1)))) [] (denH Z13) = some ((.slice a2 n2 c2), denH Z11))
 (.ret .normal Z6 Z11)))
 (.ret .normal Z7 Z8)))))))
 (.ret (.exit 6) Z10 [.seg H, Z0, dZ, Z1, .seg Y, .seg J])))) [.seg H, Z0, dZ, Z1, .seg Y, .seg J, .blk .fix [Z4, Z2]]) (.load (.const (.pointer (some ⟨b1, o1, none⟩))) none)) [.seg H, Z0, dZ, Z1, .seg Y, .seg J, .blk .fix [Z4, (sI 0)]]) [.seg H, Z0, dZ, Z1, .seg Y, .seg J, .blk .fix [Z4, Z2], .seg K, .blk .fix [Z4, Z2]]) [.seg H, Z0, dZ, Z1, .seg Y, .seg J, .blk .fix [Z4, (sI 0)], .seg K, .blk .fix [Z4, (sI 0)]]) [.seg H, Z0, dZ, Z1, .seg Y, .seg J2, .blk .fix [Z4, Z2], .seg K, .blk .fix [Z4, Z2], .seg X]) [.seg H, Z0, dZ, Z1, .seg Y, .seg J2, .blk .fix [Z4, (sI 0)], .seg K, .blk .fix [Z4, (sI 0)], .seg X]) (frS 192 [(1, (.ptr 1 0)), (2, (.ptr 2 0)), (3, (.ptr 3 0)), (9, (sI 0)), (10, (rS al nl cl)), (11, (sI i)), (119, (sI 0))])) [.seg H, Z0, dZ, Z1, .seg Y, .seg J, .blk .fix [Z4, Z2], .seg K]) [.seg H, Z0, dZ, Z1, .seg Y, .seg J, .blk .fix [Z4, (sI 0)], .seg K]) (frS 192 [(1, (.ptr 1 0)), (2, (.ptr 2 0)), (3, (.ptr 3 0)), (9, (sI 0)), (10, (rS al nl cl)), (11, (sI (IntKind.wrap .i64 (i + 1)))), (119, (sI 0))])) (frS 192 [(1, (.ptr 1 0)), (2, (.ptr 2 0)), (3, (.ptr 3 0)), (9, (sI 0)), (10, (rS a2 n2 c2)), (11, (sI (IntKind.wrap .i64 (i + 1)))), (119, (sI 0))])) (frS 192 [(1, (.ptr 1 0)), (2, (.ptr 2 0)), (3, (.ptr 3 0)), (9, (sI 0)), (10, (rS al nl cl)), (11, (sI i)), (12, (.ptr 6 0)), (13, (sB false)), (119, (sI 0)), (157, (rS al nl cl)), (158, (sI (nl : Int))), (159, (sI 0))])) (sI (wn x0 1 7))) (frS 192 [(1, (.ptr 1 0)), (2, (.ptr 2 0)), (3, (.ptr 3 0)), (9, (sI 0)), (10, (rS al nl cl)), (11, (sI i)), (12, (.ptr 6 0)), (13, (sB q)), (119, (sI 0))])) (sI (wn (IntKind.wrap .i64 (Int.tdiv x0 7)) 0 3))) (dU d0 d1 d2 d3 d4 d5 d6 d7 d8 d9 d10 d11 d12 L N S0 S1 S2)) (kU k0 k1 k2 k3 k4 k5 k6 k7 k8 k9 k10 k11 k12 u0 u1 u2 u3 (.slice as_ ns cs) u5 u6) := by show _ = _; kernel_rfl
theorem tree41s1 (k0 k1 k2 k3 k4 k5 k6 k7 k8 k9 k10 k11 k12 d0 d1 d2 d3 d4 d5 d6 d7 d8 d9 d10 d11 d12 : Int) (u0 u1 u2 u3 u4 u5 u6 L N S0 S1 S2 : Value) (as_ al a2 : Option Addr) (ns cs nl cl n2 c2 : Nat) (i x0 : Int) (q : Bool) (b1 o1 : Nat) (H Y J J2 K X : Heap) : (fun (Z0 : It) => (fun (Z1 : It) => (fun (Z2 : SV) => (fun (Z3 : SFr) => (fun (Z4 : SV) => (fun (Z5 : SFr) => (fun (Z6 : SFr) => (fun (Z7 : SFr) => (fun (Z8 : SH) => (fun (Z9 : SH) => (fun (Z10 : SFr) => (fun (Z11 : SH) => (fun (Z12 : SH) => (fun (Z13 : SH) => (fun (Z14 : SH) => (fun (Z15 : SH) => (fun (Z16 : IK) => (fun (Z17 : SH) => pieceS tblK (gE 0) (cE 0) 100 (fun i => exL i body41_6 || inL [1, 2, 3, 9, 10, 119] i) body41_6 (.join 3 (.con (.con (.con .nil))) (.con (.con (.con .nil))) (.sym (.pur 22000140 (.pointer (some ⟨b1, o1, none⟩)) (.bas 7000141 (.int .i64 x0) (.sym (.pur 22000152 (.pointer (some ⟨b1, o1, none⟩)) (.bas 7000153 (.int .i64 x0) (.lp 8 [1, 2, 3, 9, 10, 11, 12, 13, 119] Z3 ⟨[], [.seg K]⟩ (.sym (.use 30000175 (rS a2 n2 c2) ⟨[(5, .seg J2)], [.seg X]⟩ .nil) .nil)))) (.lp 8 [1, 2, 3, 9, 10, 11, 12, 13, 119] Z3 ⟨[], [.seg K]⟩ (.sym (.use 30000175 (rS a2 n2 c2) ⟨[(5, .seg J2)], [.seg X]⟩ .nil) .nil))))) .nil)) Z10 [.seg H, Z0, dZ, Z1, .seg Y, .seg J] =
(.req (bif (decide (i < (ns : Int))) then true else true) (.br (bif (decide (i < (ns : Int))) then (decide (i < 12)) else false)
 (.claim (opA (Plain.env tblK (gE 0)) (.iadr 1 none (.const (.slice as_ ns cs)) (kI i)) [] [] = some ((.pointer (some ⟨b1, o1, none⟩)), []))
 (.claim (opA (Plain.env tblK (gE 0)) Z16 [] H = some ((.int .i64 x0), H))
 (.req (preWithin 1 7) (.br ((wn x0 1 7) == 3)
 (.claim (opA (Plain.env tblK (gE 0)) (.iadr 1 none (.const (.slice as_ ns cs)) (kI i)) [] [] = some ((.pointer (some ⟨b1, o1, none⟩)), []))
 (.claim (opA (Plain.env tblK (gE 0)) Z16 [] H = some ((.int .i64 x0), H))
 (.req true (.req (preWithin 0 3) (.claim (Wp (Plain.env tblK (gE 0)) (inL [1, 2, 3, 9, 10, 11, 12, 13, 119]) (.block 8 (.loop body41_8)) (denF Z17 Z5) (denH Z17) fun e_ s_ h_ => e_ = .normal ∧ s_ = denF Z9 Z3 ∧ h_ = denH Z9)
 (.br (!q)
 (.claim (List.length J2 = List.length J) (.claim (opA (Plain.env tblK (gE 0)) (.append 2 16 (.const (.slice al nl cl)) (.const (denV (ofs Z14) (.sl 8 0 1 1)))) [] (denH Z14) = some ((.slice a2 n2 c2), denH Z12))
 (.ret .normal Z6 Z12)))
 (.ret .normal Z7 Z9)))))))
 (.claim (Wp (Plain.env tblK (gE 0)) (inL [1, 2, 3, 9, 10, 11, 12, 13, 119]) (.block 8 (.loop body41_8)) (denF Z15 Z5) (denH Z15) fun e_ s_ h_ => e_ = .normal ∧ s_ = denF Z8 Z3 ∧ h_ = denH Z8)
 (.br (!q)
 (.claim (List.length J2 = List.length J) (.claim (opA (Plain.env tblK (gE 0)) (.append 2 16 (.const (.slice al nl cl)) (.const (denV (ofs Z13) (.sl 8 0 1 1)))) [] (denH Z13) = some ((.slice a2 n2 c2), denH Z11))
 (.ret .normal Z6 Z11)))
 (.ret .normal Z7 Z8)))))))
 (.ret (.exit 6) Z10 [.seg H, Z0, dZ, Z1, .seg Y, .seg J])))) [.seg H, Z0, dZ, Z1, .seg Y, .seg J, .blk .fix [Z4, Z2]]) (.load (.const (.pointer (some ⟨b1, o1, none⟩))) none)) [.seg H, Z0, dZ, Z1, .seg Y, .seg J, .blk .fix [Z4, (sI 0)]]) [.seg H, Z0, dZ, Z1, .seg Y, .seg J, .blk .fix [Z4, Z2], .seg K, .blk .fix [Z4, Z2]]) [.seg H, Z0, dZ, Z1, .seg Y, .seg J, .blk .fix [Z4, (sI 0)], .seg K, .blk .fix [Z4, (sI 0)]]) [.seg H, Z0, dZ, Z1, .seg Y, .seg J2, .blk .fix [Z4, Z2], .seg K, .blk .fix [Z4, Z2], .seg X]) [.seg H, Z0, dZ, Z1, .seg Y, .seg J2, .blk .fix [Z4, (sI 0)], .seg K, .blk .fix [Z4, (sI 0)], .seg X]) (frS 192 [(1, (.ptr 1 0)), (2, (.ptr 2 0)), (3, (.ptr 3 0)), (9, (sI 1)), (10, (rS al nl cl)), (11, (sI i)), (119, (sI 1))])) [.seg H, Z0, dZ, Z1, .seg Y, .seg J, .blk .fix [Z4, Z2], .seg K]) [.seg H, Z0, dZ, Z1, .seg Y, .seg J, .blk .fix [Z4, (sI 0)], .seg K]) (frS 192 [(1, (.ptr 1 0)), (2, (.ptr 2 0)), (3, (.ptr 3 0)), (9, (sI 1)), (10, (rS al nl cl)), (11, (sI (IntKind.wrap .i64 (i + 1)))), (119, (sI 1))])) (frS 192 [(1, (.ptr 1 0)), (2, (.ptr 2 0)), (3, (.ptr 3 0)), (9, (sI 1)), (10, (rS a2 n2 c2)), (11, (sI (IntKind.wrap .i64 (i + 1)))), (119, (sI 1))])) (frS 192 [(1, (.ptr 1 0)), (2, (.ptr 2 0)), (3, (.ptr 3 0)), (9, (sI 1)), (10, (rS al nl cl)), (11, (sI i)), (12, (.ptr 6 0)), (13, (sB false)), (119, (sI 1)), (157, (rS al nl cl)), (158, (sI (nl : Int))), (159, (sI 0))])) (sI (wn x0 1 7))) (frS 192 [(1, (.ptr 1 0)), (2, (.ptr 2 0)), (3, (.ptr 3 0)), (9, (sI 1)), (10, (rS al nl cl)), (11, (sI i)), (12, (.ptr 6 0)), (13, (sB q)), (119, (sI 1))])) (sI (wn (IntKind.wrap .i64 (Int.tdiv x0 7)) 0 3))) (dU d0 d1 d2 d3 d4 d5 d6 d7 d8 d9 d10 d11 d12 L N S0 S1 S2)) (kU k0 k1 k2 k3 k4 k5 k6 k7 k8 k9 k10 k11 k12 u0 u1 u2 u3 u4 (.slice as_ ns cs) u6) := by show _ = _; kernel_rfl
theorem tree41s2 (k0 k1 k2 k3 k4 k5 k6 k7 k8 k9 k10 k11 k12 d0 d1 d2 d3 d4 d5 d6 d7 d8 d9 d10 d11 d12 : Int) (u0 u1 u2 u3 u4 u5 u6 L N S0 S1 S2 : Value) (as_ al a2 : Option Addr) (ns cs nl cl n2 c2 : Nat) (i x0 : Int) (q : Bool) (b1 o1 : Nat) (H Y J J2 K X : Heap) : (fun (Z0 : It) => (fun (Z1 : It) => (fun (Z2 : SV) => (fun (Z3 : SFr) => (fun (Z4 : SV) => (fun (Z5 : SFr) => (fun (Z6 : SFr) => (fun (Z7 : SFr) => (fun (Z8 : SH) => (fun (Z9 : SH) => (fun (Z10 : SFr) => (fun (Z11 : SH) => (fun (Z12 : SH) => (fun (Z13 : SH) => (fun (Z14 : SH) => (fun (Z15 : SH) => (fun (Z16 : IK) => (fun (Z17 : SH) => pieceS tblK (gE 0) (cE 0) 100 (fun i => exL i body41_6 || inL [1, 2, 3, 9, 10, 119] i) body41_6 (.join 3 (.con (.con (.con .nil))) (.con (.con (.con .nil))) (.sym (.pur 22000140 (.pointer (some ⟨b1, o1, none⟩)) (.bas 7000141 (.int .i64 x0) (.sym (.pur 22000152 (.pointer (some ⟨b1, o1, none⟩)) (.bas 7000153 (.int .i64 x0) (.lp 8 [1, 2, 3, 9, 10, 11, 12, 13, 119] Z3 ⟨[], [.seg K]⟩ (.sym (.use 30000175 (rS a2 n2 c2) ⟨[(5, .seg J2)], [.seg X]⟩ .nil) .nil)))) (.lp 8 [1, 2, 3, 9, 10, 11, 12, 13, 119] Z3 ⟨[], [.seg K]⟩ (.sym (.use 30000175 (rS a2 n2 c2) ⟨[(5, .seg J2)], [.seg X]⟩ .nil) .nil))))) .nil)) Z10 [.seg H, Z0, dZ, Z1, .seg Y, .seg J] =
(.req (bif (decide (i < (ns : Int))) then true else true) (.br (bif (decide (i < (ns : Int))) then (decide (i < 12)) else false)
 (.claim (opA (Plain.env tblK (gE 0)) (.iadr 1 none (.const (.slice as_ ns cs)) (kI i)) [] [] = some ((.pointer (some ⟨b1, o1, none⟩)), []))
 (.claim (opA (Plain.env tblK (gE 0)) Z16 [] H = some ((.int .i64 x0), H))
 (.req (preWithin 1 7) (.br ((wn x0 1 7) == 3)
 (.claim (opA (Plain.env tblK (gE 0)) (.iadr 1 none (.const (.slice as_ ns cs)) (kI i)) [] [] = some ((.pointer (some ⟨b1, o1, none⟩)), []))
 (.claim (opA (Plain.env tblK (gE 0)) Z16 [] H = some ((.int .i64 x0), H))
 (.req true (.req (preWithin 0 3) (.claim (Wp (Plain.env tblK (gE 0)) (inL [1, 2, 3, 9, 10, 11, 12, 13, 119]) (.block 8 (.loop body41_8)) (denF Z17 Z5) (denH Z17) fun e_ s_ h_ => e_ = .normal ∧ s_ = denF Z9 Z3 ∧ h_ = denH Z9)
 (.br (!q)
 (.claim (List.length J2 = List.length J) (.claim (opA (Plain.env tblK (gE 0)) (.append 2 16 (.const (.slice al nl cl)) (.const (denV (ofs Z14) (.sl 8 0 1 1)))) [] (denH Z14) = some ((.slice a2 n2 c2), denH Z12))
 (.ret .normal Z6 Z12)))
 (.ret .normal Z7 Z9)))))))
 (.claim (Wp (Plain.env tblK (gE 0)) (inL [1, 2, 3, 9, 10, 11, 12, 13, 119]) (.block 8 (.loop body41_8)) (denF Z15 Z5) (denH Z15) fun e_ s_ h_ => e_ = .normal ∧ s_ = denF Z8 Z3 ∧ h_ = denH Z8)
 (.br (!q)
 (.claim (List.length J2 = List.length J) (.claim (opA (Plain.env tblK (gE 0)) (.append 2 16 (.const (.slice al nl cl)) (.const (denV (ofs Z13) (.sl 8 0 1 1)))) [] (denH Z13) = some ((.slice a2 n2 c2), denH Z11))
 (.ret .normal Z6 Z11)))
 (.ret .normal Z7 Z8)))))))
 (.ret (.exit 6) Z10 [.seg H, Z0, dZ, Z1, .seg Y, .seg J])))) [.seg H, Z0, dZ, Z1, .seg Y, .seg J, .blk .fix [Z4, Z2]]) (.load (.const (.pointer (some ⟨b1, o1, none⟩))) none)) [.seg H, Z0, dZ, Z1, .seg Y, .seg J, .blk .fix [Z4, (sI 0)]]) [.seg H, Z0, dZ, Z1, .seg Y, .seg J, .blk .fix [Z4, Z2], .seg K, .blk .fix [Z4, Z2]]) [.seg H, Z0, dZ, Z1, .seg Y, .seg J, .blk .fix [Z4, (sI 0)], .seg K, .blk .fix [Z4, (sI 0)]]) [.seg H, Z0, dZ, Z1, .seg Y, .seg J2, .blk .fix [Z4, Z2], .seg K, .blk .fix [Z4, Z2], .seg X]) [.seg H, Z0, dZ, Z1, .seg Y, .seg J2, .blk .fix [Z4, (sI 0)], .seg K, .blk .fix [Z4, (sI 0)], .seg X]) (frS 192 [(1, (.ptr 1 0)), (2, (.ptr 2 0)), (3, (.ptr 3 0)), (9, (sI 2)), (10, (rS al nl cl)), (11, (sI i)), (119, (sI 2))])) [.seg H, Z0, dZ, Z1, .seg Y, .seg J, .blk .fix [Z4, Z2], .seg K]) [.seg H, Z0, dZ, Z1, .seg Y, .seg J, .blk .fix [Z4, (sI 0)], .seg K]) (frS 192 [(1, (.ptr 1 0)), (2, (.ptr 2 0)), (3, (.ptr 3 0)), (9, (sI 2)), (10, (rS al nl cl)), (11, (sI (IntKind.wrap .i64 (i + 1)))), (119, (sI 2))])) (frS 192 [(1, (.ptr 1 0)), (2, (.ptr 2 0)), (3, (.ptr 3 0)), (9, (sI 2)), (10, (rS a2 n2 c2)), (11, (sI (IntKind.wrap .i64 (i + 1)))), (119, (sI 2))])) (frS 192 [(1, (.ptr 1 0)), (2, (.ptr 2 0)), (3, (.ptr 3 0)), (9, (sI 2)), (10, (rS al nl cl)), (11, (sI i)), (12, (.ptr 6 0)), (13, (sB false)), (119, (sI 2)), (157, (rS al nl cl)), (158, (sI (nl : Int))), (159, (sI 0))])) (sI (wn x0 1 7))) (frS 192 [(1, (.ptr 1 0)), (2, (.ptr 2 0)), (3, (.ptr 3 0)), (9, (sI 2)), (10, (rS al nl cl)), (11, (sI i)), (12, (.ptr 6 0)), (13, (sB q)), (119, (sI 2))])) (sI (wn (IntKind.wrap .i64 (Int.tdiv x0 7)) 0 3))) (dU d0 d1 d2 d3 d4 d5 d6 d7 d8 d9 d10 d11 d12 L N S0 S1 S2)) (kU k0 k1 k2 k3 k4 k5 k6 k7 k8 k9 k10 k11 k12 u0 u1 u2 u3 u4 u5 (.slice as_ ns cs)) := by show _ = _; kernel_rfl
end E1
open E1
theorem loopD0 {H Y : Heap} {k0 k1 k2 k3 k4 k5 k6 k7 k8 k9 k10 k11 k12 d0 d1 d2 d3 d4 d5 d6 d7 d8 d9 d10 d11 d12 : Int} {u0 u1 u2 u3 u4 u5 u6 L N S0 S1 S2 : Value} {as_ : Option Addr} {cs : Nat} {zs : List Int} (hz : RowsW 1 H (.slice as_ zs.length cs) (zs.map ir)) :
  Wp (Plain.env tblK (gE 0)) (inL [1, 2, 3, 9, 10, 119]) (.block 6 (.loop body41_6)) (denF [.seg H, kB k0 k1 k2 k3 k4 k5 k6 k7 k8 k9 k10 k11 k12 (.raw u0) (.raw u1) (.raw u2) (.raw u3) (rS as_ zs.length cs) (.raw u5) (.raw u6), dZ, dB d0 d1 d2 (.raw L) (.raw N) d3 d4 d5 d6 d7 d8 d9 d10 d11 d12 (.raw S0) (.raw S1) (.raw S2), .seg Y] (frS 192 [(1, (.ptr 1 0)), (2, (.ptr 2 0)), (3, (.ptr 3 0)), (9, sI 0), (10, nS), (11, sI 0), (119, sI 0)])) (denH [.seg H, kB k0 k1 k2 k3 k4 k5 k6 k7 k8 k9 k10 k11 k12 (.raw u0) (.raw u1) (.raw u2) (.raw u3) (rS as_ zs.length cs) (.raw u5) (.raw u6), dZ, dB d0 d1 d2 (.raw L) (.raw N) d3 d4 d5 d6 d7 d8 d9 d10 d11 d12 (.raw S0) (.raw S1) (.raw S2), .seg Y]) fun e s h => ∃ (X : Heap) (al : Option Addr) (cl : Nat), (e = .normal ∧ s = denF [.seg H, kB k0 k1 k2 k3 k4 k5 k6 k7 k8 k9 k10 k11 k12 (.raw u0) (.raw u1) (.raw u2) (.raw u3) (rS as_ zs.length cs) (.raw u5) (.raw u6), dZ, dB d0 d1 d2 (.raw L) (.raw N) d3 d4 d5 d6 d7 d8 d9 d10 d11 d12 (.raw S0) (.raw S1) (.raw S2), .seg Y, .seg X] (frS 192 [(1, (.ptr 1 0)), (2, (.ptr 2 0)), (3, (.ptr 3 0)), (9, sI 0), (10, (rS al (stepsL zs).length cl)), (119, sI 0)]) ∧ h = denH [.seg H, kB k0 k1 k2 k3 k4 k5 k6 k7 k8 k9 k10 k11 k12 (.raw u0) (.raw u1) (.raw u2) (.raw u3) (rS as_ zs.length cs) (.raw u5) (.raw u6), dZ, dB d0 d1 d2 (.raw L) (.raw N) d3 d4 d5 d6 d7 d8 d9 d10 d11 d12 (.raw S0) (.raw S1) (.raw S2), .seg Y, .seg X]) ∧ LsS 2 (denH [.seg H, kB k0 k1 k2 k3 k4 k5 k6 k7 k8 k9 k10 k11 k12 (.raw u0) (.raw u1) (.raw u2) (.raw u3) (rS as_ zs.length cs) (.raw u5) (.raw u6), dZ, dB d0 d1 d2 (.raw L) (.raw N) d3 d4 d5 d6 d7 d8 d9 d10 d11 d12 (.raw S0) (.raw S1) (.raw S2), .seg Y]) X (.slice al (stepsL zs).length cl) ((stepsL zs).map e2) := by
 refine Wp.bl (fun k t h => ∃ (i : Nat) (J : Heap) (al : Option Addr) (cl : Nat), i + k = min zs.length 12 ∧ t = denF [.seg H, kB k0 k1 k2 k3 k4 k5 k6 k7 k8 k9 k10 k11 k12 (.raw u0) (.raw u1) (.raw u2) (.raw u3) (rS as_ zs.length cs) (.raw u5) (.raw u6), dZ, dB d0 d1 d2 (.raw L) (.raw N) d3 d4 d5 d6 d7 d8 d9 d10 d11 d12 (.raw S0) (.raw S1) (.raw S2), .seg Y, .seg J] (frS 192 [(1, (.ptr 1 0)), (2, (.ptr 2 0)), (3, (.ptr 3 0)), (9, sI 0), (10, (rS al ((zs.take i).foldl stepAdd []).length cl)), (11, sI i), (119, sI 0)]) ∧ h = denH [.seg H, kB k0 k1 k2 k3 k4 k5 k6 k7 k8 k9 k10 k11 k12 (.raw u0) (.raw u1) (.raw u2) (.raw u3) (rS as_ zs.length cs) (.raw u5) (.raw u6), dZ, dB d0 d1 d2 (.raw L) (.raw N) d3 d4 d5 d6 d7 d8 d9 d10 d11 d12 (.raw S0) (.raw S1) (.raw S2), .seg Y, .seg J] ∧ LsS 2 (denH [.seg H, kB k0 k1 k2 k3 k4 k5 k6 k7 k8 k9 k10 k11 k12 (.raw u0) (.raw u1) (.raw u2) (.raw u3) (rS as_ zs.length cs) (.raw u5) (.raw u6), dZ, dB d0 d1 d2 (.raw L) (.raw N) d3 d4 d5 d6 d7 d8 d9 d10 d11 d12 (.raw S0) (.raw S1) (.raw S2), .seg Y]) J (.slice al ((zs.take i).foldl stepAdd []).length cl) (((zs.take i).foldl stepAdd []).map e2)) ?_ (min zs.length 12) _ _
  ⟨0, [], none, 0, by omega, by show denF _ _ = denF _ _; kernel_rfl, by simp [denH, denL, It.den, den0, e2, e3], .inl ⟨rfl, rfl⟩⟩
 rintro k t h ⟨i, J, al, cl, hi, rfl, rfl, hl⟩
 have hln : ((zs.take i).foldl stepAdd []).length ≤ i := by
  have := fold_len (zs.take i) []
  rw [List.length_take] at this
  simp only [List.length_nil] at this
  omega
 by_cases hlt : i < min zs.length 12
 ·obtain ⟨x, hx⟩ := getE (show i < zs.length by omega)
  obtain ⟨b1, o1, r1⟩ := hz.rowM hx
  obtain ⟨l, el⟩ : ∃ l, l = (zs.take i).foldl stepAdd [] := ⟨_, rfl⟩
  rw [← el] at hl hln ⊢
  have hJ : RowsW 2 (denH [.seg H, kB k0 k1 k2 k3 k4 k5 k6 k7 k8 k9 k10 k11 k12 (.raw u0) (.raw u1) (.raw u2) (.raw u3) (rS as_ zs.length cs) (.raw u5) (.raw u6), dZ, dB d0 d1 d2 (.raw L) (.raw N) d3 d4 d5 d6 d7 d8 d9 d10 d11 d12 (.raw S0) (.raw S1) (.raw S2), .seg Y, .seg J]) (.slice al l.length cl) (l.map e2) := LsS.rowsI (I := [.seg H, kB k0 k1 k2 k3 k4 k5 k6 k7 k8 k9 k10 k11 k12 (.raw u0) (.raw u1) (.raw u2) (.raw u3) (rS as_ zs.length cs) (.raw u5) (.raw u6), dZ, dB d0 d1 d2 (.raw L) (.raw N) d3 d4 d5 d6 d7 d8 d9 d10 d11 d12 (.raw S0) (.raw S1) (.raw S2), .seg Y]) (K := [.seg J]) rfl hl (by decide) (by simp [denL, It.den])
  by_cases h3 : wn x 1 7 = 3
  ·have es : stepOf x = ⟨wn x 1 7, wn (IntKind.wrap .i64 (Int.tdiv x 7)) 0 3⟩ := by unfold stepOf; rw [if_pos h3]
   obtain ⟨e, t1, h1, ⟨K, rfl, rfl, rfl⟩, w⟩ := (loopC (k0 := k0) (m := 0) (i := (i : Int)) (x := stepOf x) hJ (by omega)).exact
   rw [es] at w
   obtain ⟨a2, c2, J2, X, q1, q2, q3⟩ := appRow (I := [.seg H, kB k0 k1 k2 k3 k4 k5 k6 k7 k8 k9 k10 k11 k12 (.raw u0) (.raw u1) (.raw u2) (.raw u3) (rS as_ zs.length cs) (.raw u5) (.raw u6), dZ, dB d0 d1 d2 (.raw L) (.raw N) d3 d4 d5 d6 d7 d8 d9 d10 d11 d12 (.raw S0) (.raw S1) (.raw S2), .seg Y]) (R := [.blk .fix [sI (wn x 1 7), sI (wn (IntKind.wrap .i64 (Int.tdiv x 7)) 0 3)], .seg K]) (R0 := some ⟨.fix, [.int .i64 (wn x 1 7), .int .i64 (wn (IntKind.wrap .i64 (Int.tdiv x 7)) 0 3)]⟩ :: K) (w := 2) (eby := 16) (row := [.int .i64 (wn x 1 7), .int .i64 (wn (IntKind.wrap .i64 (Int.tdiv x 7)) 0 3)]) (cs := [sI (wn x 1 7), sI (wn (IntKind.wrap .i64 (Int.tdiv x 7)) 0 3)]) rfl (fun f => by simp [denL, It.den, den0]) hl (fun _ => rfl) rfl (by decide) (by simp; omega) (by simp; omega)
   rw [List.length_map] at q2 q3
   have nx : (q : Bool) → hasS l ⟨(wn x 1 7), (wn (IntKind.wrap .i64 (Int.tdiv x 7)) 0 3)⟩ = q → (zs.take (i + 1)).foldl stepAdd [] = if q then l else l ++ [⟨(wn x 1 7), (wn (IntKind.wrap .i64 (Int.tdiv x 7)) 0 3)⟩] := fun q hq => by
    rw [WB.take_one hx, List.foldl_append, ← el]; simp only [List.foldl_cons, List.foldl_nil, stepAdd, es, hq]
   refine Wp.tree (cE_ok 0) (tree41s0 k0 k1 k2 k3 k4 k5 k6 k7 k8 k9 k10 k11 k12 d0 d1 d2 d3 d4 d5 d6 d7 d8 d9 d10 d11 d12 u0 u1 u2 u3 u4 u5 u6 L N S0 S1 S2 as_ al a2 zs.length cs l.length cl (l.length + 1) c2 i x (hasS l ⟨(wn x 1 7), (wn (IntKind.wrap .i64 (Int.tdiv x 7)) 0 3)⟩) b1 o1 H Y J J2 K X) ⟨rfl, rfl⟩ ⟨bif_tt _, fun _ => ⟨r1.ptr _ _, r1.one _, rfl, fun _ => ⟨r1.ptr _ _, r1.one _, rfl, rfl, w, fun hq => ⟨q1, q2 (Plain.env tblK (gE 0)), end_next (k - 1) (by omega) ?_⟩, fun hq => end_next (k - 1) (by omega) ?_⟩, fun q => by simp [h3] at q⟩, fun q => by simp [Bool.cond_eq_ite] at q; omega⟩
   ·refine ⟨i + 1, J2 ++ (some ⟨.fix, [.int .i64 (wn x 1 7), .int .i64 (wn (IntKind.wrap .i64 (Int.tdiv x 7)) 0 3)]⟩ :: K ++ (some ⟨.fix, [.int .i64 (wn x 1 7), .int .i64 (wn (IntKind.wrap .i64 (Int.tdiv x 7)) 0 3)]⟩ :: X)), a2, c2, by omega, ?_, by simp [denH, denL, It.den, den0], ?_⟩
    ·rw [nx false (by simpa using hq), wrap64 (x := (i : Int) + 1) (by omega) (by omega)]
     simp only [Bool.false_eq_true, if_false, List.length_append, List.length_singleton]
     show denF _ _ = denF _ _; kernel_rfl
    ·rw [nx false (by simpa using hq)]
     simp only [Bool.false_eq_true, if_false, List.length_append, List.length_singleton, List.map_append, List.map_cons, List.map_nil]
     exact q3
   ·refine ⟨i + 1, J ++ (some ⟨.fix, [.int .i64 (wn x 1 7), .int .i64 (wn (IntKind.wrap .i64 (Int.tdiv x 7)) 0 3)]⟩ :: K), al, cl, by omega, ?_, by simp [denH, denL, It.den, den0], ?_⟩
    ·rw [nx true (by simpa using hq), wrap64 (x := (i : Int) + 1) (by omega) (by omega)]
     simp only [if_true]
     show denF _ _ = denF _ _; kernel_rfl
    ·rw [nx true (by simpa using hq)]
     simp only [if_true]
     exact hl.more _
  ·have es : stepOf x = ⟨wn x 1 7, 0⟩ := by unfold stepOf; rw [if_neg h3]
   obtain ⟨e, t1, h1, ⟨K, rfl, rfl, rfl⟩, w⟩ := (loopC (k0 := k0) (m := 0) (i := (i : Int)) (x := stepOf x) hJ (by omega)).exact
   rw [es] at w
   obtain ⟨a2, c2, J2, X, q1, q2, q3⟩ := appRow (I := [.seg H, kB k0 k1 k2 k3 k4 k5 k6 k7 k8 k9 k10 k11 k12 (.raw u0) (.raw u1) (.raw u2) (.raw u3) (rS as_ zs.length cs) (.raw u5) (.raw u6), dZ, dB d0 d1 d2 (.raw L) (.raw N) d3 d4 d5 d6 d7 d8 d9 d10 d11 d12 (.raw S0) (.raw S1) (.raw S2), .seg Y]) (R := [.blk .fix [sI (wn x 1 7), sI 0], .seg K]) (R0 := some ⟨.fix, [.int .i64 (wn x 1 7), .int .i64 0]⟩ :: K) (w := 2) (eby := 16) (row := [.int .i64 (wn x 1 7), .int .i64 0]) (cs := [sI (wn x 1 7), sI 0]) rfl (fun f => by simp [denL, It.den, den0]) hl (fun _ => rfl) rfl (by decide) (by simp; omega) (by simp; omega)
   rw [List.length_map] at q2 q3
   have nx : (q : Bool) → hasS l ⟨(wn x 1 7), 0⟩ = q → (zs.take (i + 1)).foldl stepAdd [] = if q then l else l ++ [⟨(wn x 1 7), 0⟩] := fun q hq => by
    rw [WB.take_one hx, List.foldl_append, ← el]; simp only [List.foldl_cons, List.foldl_nil, stepAdd, es, hq]
   refine Wp.tree (cE_ok 0) (tree41s0 k0 k1 k2 k3 k4 k5 k6 k7 k8 k9 k10 k11 k12 d0 d1 d2 d3 d4 d5 d6 d7 d8 d9 d10 d11 d12 u0 u1 u2 u3 u4 u5 u6 L N S0 S1 S2 as_ al a2 zs.length cs l.length cl (l.length + 1) c2 i x (hasS l ⟨(wn x 1 7), 0⟩) b1 o1 H Y J J2 K X) ⟨rfl, rfl⟩ ⟨bif_tt _, fun _ => ⟨r1.ptr _ _, r1.one _, rfl, fun q => by simp [h3] at q, fun _ => ⟨w, fun hq => ⟨q1, q2 (Plain.env tblK (gE 0)), end_next (k - 1) (by omega) ?_⟩, fun hq => end_next (k - 1) (by omega) ?_⟩⟩, fun q => by simp [Bool.cond_eq_ite] at q; omega⟩
   ·refine ⟨i + 1, J2 ++ (some ⟨.fix, [.int .i64 (wn x 1 7), .int .i64 0]⟩ :: K ++ (some ⟨.fix, [.int .i64 (wn x 1 7), .int .i64 0]⟩ :: X)), a2, c2, by omega, ?_, by simp [denH, denL, It.den, den0], ?_⟩
    ·rw [nx false (by simpa using hq), wrap64 (x := (i : Int) + 1) (by omega) (by omega)]
     simp only [Bool.false_eq_true, if_false, List.length_append, List.length_singleton]
     show denF _ _ = denF _ _; kernel_rfl
    ·rw [nx false (by simpa using hq)]
     simp only [Bool.false_eq_true, if_false, List.length_append, List.length_singleton, List.map_append, List.map_cons, List.map_nil]
     exact q3
   ·refine ⟨i + 1, J ++ (some ⟨.fix, [.int .i64 (wn x 1 7), .int .i64 0]⟩ :: K), al, cl, by omega, ?_, by simp [denH, denL, It.den, den0], ?_⟩
    ·rw [nx true (by simpa using hq), wrap64 (x := (i : Int) + 1) (by omega) (by omega)]
     simp only [if_true]
     show denF _ _ = denF _ _; kernel_rfl
    ·rw [nx true (by simpa using hq)]
     simp only [if_true]
     exact hl.more _
 ·have hil : i = min zs.length 12 := by omega
  refine Wp.tree (cE_ok 0) (tree41s0 k0 k1 k2 k3 k4 k5 k6 k7 k8 k9 k10 k11 k12 d0 d1 d2 d3 d4 d5 d6 d7 d8 d9 d10 d11 d12 u0 u1 u2 u3 u4 u5 u6 L N S0 S1 S2 as_ al al zs.length cs ((zs.take i).foldl stepAdd []).length cl 0 0 i 0 false 0 0 H Y J J [] []) ⟨rfl, rfl⟩ ⟨bif_tt _, fun q => by simp [Bool.cond_eq_ite] at q; omega, fun _ => end_exit ?_⟩
  have et : zs.take i = zs.take 12 := by
   rw [hil]
   rcases Nat.le_total zs.length 12 with h | h
   ·rw [Nat.min_eq_left h, List.take_length, List.take_of_length_le h]
   ·rw [Nat.min_eq_right h]
  rw [et] at hl ⊢
  exact ⟨J, al, cl, ⟨rfl, by show denF _ _ = denF _ _; kernel_rfl, rfl⟩, hl⟩
theorem loopD1 {H Y : Heap} {k0 k1 k2 k3 k4 k5 k6 k7 k8 k9 k10 k11 k12 d0 d1 d2 d3 d4 d5 d6 d7 d8 d9 d10 d11 d12 : Int} {u0 u1 u2 u3 u4 u5 u6 L N S0 S1 S2 : Value} {as_ : Option Addr} {cs : Nat} {zs : List Int} (hz : RowsW 1 H (.slice as_ zs.length cs) (zs.map ir)) :
  Wp (Plain.env tblK (gE 0)) (inL [1, 2, 3, 9, 10, 119]) (.block 6 (.loop body41_6)) (denF [.seg H, kB k0 k1 k2 k3 k4 k5 k6 k7 k8 k9 k10 k11 k12 (.raw u0) (.raw u1) (.raw u2) (.raw u3) (.raw u4) (rS as_ zs.length cs) (.raw u6), dZ, dB d0 d1 d2 (.raw L) (.raw N) d3 d4 d5 d6 d7 d8 d9 d10 d11 d12 (.raw S0) (.raw S1) (.raw S2), .seg Y] (frS 192 [(1, (.ptr 1 0)), (2, (.ptr 2 0)), (3, (.ptr 3 0)), (9, sI 1), (10, nS), (11, sI 0), (119, sI 1)])) (denH [.seg H, kB k0 k1 k2 k3 k4 k5 k6 k7 k8 k9 k10 k11 k12 (.raw u0) (.raw u1) (.raw u2) (.raw u3) (.raw u4) (rS as_ zs.length cs) (.raw u6), dZ, dB d0 d1 d2 (.raw L) (.raw N) d3 d4 d5 d6 d7 d8 d9 d10 d11 d12 (.raw S0) (.raw S1) (.raw S2), .seg Y]) fun e s h => ∃ (X : Heap) (al : Option Addr) (cl : Nat), (e = .normal ∧ s = denF [.seg H, kB k0 k1 k2 k3 k4 k5 k6 k7 k8 k9 k10 k11 k12 (.raw u0) (.raw u1) (.raw u2) (.raw u3) (.raw u4) (rS as_ zs.length cs) (.raw u6), dZ, dB d0 d1 d2 (.raw L) (.raw N) d3 d4 d5 d6 d7 d8 d9 d10 d11 d12 (.raw S0) (.raw S1) (.raw S2), .seg Y, .seg X] (frS 192 [(1, (.ptr 1 0)), (2, (.ptr 2 0)), (3, (.ptr 3 0)), (9, sI 1), (10, (rS al (stepsL zs).length cl)), (119, sI 1)]) ∧ h = denH [.seg H, kB k0 k1 k2 k3 k4 k5 k6 k7 k8 k9 k10 k11 k12 (.raw u0) (.raw u1) (.raw u2) (.raw u3) (.raw u4) (rS as_ zs.length cs) (.raw u6), dZ, dB d0 d1 d2 (.raw L) (.raw N) d3 d4 d5 d6 d7 d8 d9 d10 d11 d12 (.raw S0) (.raw S1) (.raw S2), .seg Y, .seg X]) ∧ LsS 2 (denH [.seg H, kB k0 k1 k2 k3 k4 k5 k6 k7 k8 k9 k10 k11 k12 (.raw u0) (.raw u1) (.raw u2) (.raw u3) (.raw u4) (rS as_ zs.length cs) (.raw u6), dZ, dB d0 d1 d2 (.raw L) (.raw N) d3 d4 d5 d6 d7 d8 d9 d10 d11 d12 (.raw S0) (.raw S1) (.raw S2), .seg Y]) X (.slice al (stepsL zs).length cl) ((stepsL zs).map e2) := by
 refine Wp.bl (fun k t h => ∃ (i : Nat) (J : Heap) (al : Option Addr) (cl : Nat), i + k = min zs.length 12 ∧ t = denF [.seg H, kB k0 k1 k2 k3 k4 k5 k6 k7 k8 k9 k10 k11 k12 (.raw u0) (.raw u1) (.raw u2) (.raw u3) (.raw u4) (rS as_ zs.length cs) (.raw u6), dZ, dB d0 d1 d2 (.raw L) (.raw N) d3 d4 d5 d6 d7 d8 d9 d10 d11 d12 (.raw S0) (.raw S1) (.raw S2), .seg Y, .seg J] (frS 192 [(1, (.ptr 1 0)), (2, (.ptr 2 0)), (3, (.ptr 3 0)), (9, sI 1), (10, (rS al ((zs.take i).foldl stepAdd []).length cl)), (11, sI i), (119, sI 1)]) ∧ h = denH [.seg H, kB k0 k1 k2 k3 k4 k5 k6 k7 k8 k9 k10 k11 k12 (.raw u0) (.raw u1) (.raw u2) (.raw u3) (.raw u4) (rS as_ zs.length cs) (.raw u6), dZ, dB d0 d1 d2 (.raw L) (.raw N) d3 d4 d5 d6 d7 d8 d9 d10 d11 d12 (.raw S0) (.raw S1) (.raw S2), .seg Y, .seg J] ∧ LsS 2 (denH [.seg H, kB k0 k1 k2 k3 k4 k5 k6 k7 k8 k9 k10 k11 k12 (.raw u0) (.raw u1) (.raw u2) (.raw u3) (.raw u4) (rS as_ zs.length cs) (.raw u6), dZ, dB d0 d1 d2 (.raw L) (.raw N) d3 d4 d5 d6 d7 d8 d9 d10 d11 d12 (.raw S0) (.raw S1) (.raw S2), .seg Y]) J (.slice al ((zs.take i).foldl stepAdd []).length cl) (((zs.take i).foldl stepAdd []).map e2)) ?_ (min zs.length 12) _ _
  ⟨0, [], none, 0, by omega, by show denF _ _ = denF _ _; kernel_rfl, by simp [denH, denL, It.den, den0, e2, e3], .inl ⟨rfl, rfl⟩⟩
 rintro k t h ⟨i, J, al, cl, hi, rfl, rfl, hl⟩
 have hln : ((zs.take i).foldl stepAdd []).length ≤ i := by
  have := fold_len (zs.take i) []
  rw [List.length_take] at this
  simp only [List.length_nil] at this
  omega
 by_cases hlt : i < min zs.length 12
 ·obtain ⟨x, hx⟩ := getE (show i < zs.length by omega)
  obtain ⟨b1, o1, r1⟩ := hz.rowM hx
  obtain ⟨l, el⟩ : ∃ l, l = (zs.take i).foldl stepAdd [] := ⟨_, rfl⟩
  rw [← el] at hl hln ⊢
  have hJ : RowsW 2 (denH [.seg H, kB k0 k1 k2 k3 k4 k5 k6 k7 k8 k9 k10 k11 k12 (.raw u0) (.raw u1) (.raw u2) (.raw u3) (.raw u4) (rS as_ zs.length cs) (.raw u6), dZ, dB d0 d1 d2 (.raw L) (.raw N) d3 d4 d5 d6 d7 d8 d9 d10 d11 d12 (.raw S0) (.raw S1) (.raw S2), .seg Y, .seg J]) (.slice al l.length cl) (l.map e2) := LsS.rowsI (I := [.seg H, kB k0 k1 k2 k3 k4 k5 k6 k7 k8 k9 k10 k11 k12 (.raw u0) (.raw u1) (.raw u2) (.raw u3) (.raw u4) (rS as_ zs.length cs) (.raw u6), dZ, dB d0 d1 d2 (.raw L) (.raw N) d3 d4 d5 d6 d7 d8 d9 d10 d11 d12 (.raw S0) (.raw S1) (.raw S2), .seg Y]) (K := [.seg J]) rfl hl (by decide) (by simp [denL, It.den])
  by_cases h3 : wn x 1 7 = 3
  ·have es : stepOf x = ⟨wn x 1 7, wn (IntKind.wrap .i64 (Int.tdiv x 7)) 0 3⟩ := by unfold stepOf; rw [if_pos h3]
   obtain ⟨e, t1, h1, ⟨K, rfl, rfl, rfl⟩, w⟩ := (loopC (k0 := k0) (m := 1) (i := (i : Int)) (x := stepOf x) hJ (by omega)).exact
   rw [es] at w
   obtain ⟨a2, c2, J2, X, q1, q2, q3⟩ := appRow (I := [.seg H, kB k0 k1 k2 k3 k4 k5 k6 k7 k8 k9 k10 k11 k12 (.raw u0) (.raw u1) (.raw u2) (.raw u3) (.raw u4) (rS as_ zs.length cs) (.raw u6), dZ, dB d0 d1 d2 (.raw L) (.raw N) d3 d4 d5 d6 d7 d8 d9 d10 d11 d12 (.raw S0) (.raw S1) (.raw S2), .seg Y]) (R := [.blk .fix [sI (wn x 1 7), sI (wn (IntKind.wrap .i64 (Int.tdiv x 7)) 0 3)], .seg K]) (R0 := some ⟨.fix, [.int .i64 (wn x 1 7), .int .i64 (wn (IntKind.wrap .i64 (Int.tdiv x 7)) 0 3)]⟩ :: K) (w := 2) (eby := 16) (row := [.int .i64 (wn x 1 7), .int .i64 (wn (IntKind.wrap .i64 (Int.tdiv x 7)) 0 3)]) (cs := [sI (wn x 1 7), sI (wn (IntKind.wrap .i64 (Int.tdiv x 7)) 0 3)]) rfl (fun f => by simp [denL, It.den, den0]) hl (fun _ => rfl) rfl (by decide) (by simp; omega) (by simp; omega)
   rw [List.length_map] at q2 q3
   have nx : (q : Bool) → hasS l ⟨(wn x 1 7), (wn (IntKind.wrap .i64 (Int.tdiv x 7)) 0 3)⟩ = q → (zs.take (i + 1)).foldl stepAdd [] = if q then l else l ++ [⟨(wn x 1 7), (wn (IntKind.wrap .i64 (Int.tdiv x 7)) 0 3)⟩] := fun q hq => by
    rw [WB.take_one hx, List.foldl_append, ← el]; simp only [List.foldl_cons, List.foldl_nil, stepAdd, es, hq]
   refine Wp.tree (cE_ok 0) (tree41s1 k0 k1 k2 k3 k4 k5 k6 k7 k8 k9 k10 k11 k12 d0 d1 d2 d3 d4 d5 d6 d7 d8 d9 d10 d11 d12 u0 u1 u2 u3 u4 u5 u6 L N S0 S1 S2 as_ al a2 zs.length cs l.length cl (l.length + 1) c2 i x (hasS l ⟨(wn x 1 7), (wn (IntKind.wrap .i64 (Int.tdiv x 7)) 0 3)⟩) b1 o1 H Y J J2 K X) ⟨rfl, rfl⟩ ⟨bif_tt _, fun _ => ⟨r1.ptr _ _, r1.one _, rfl, fun _ => ⟨r1.ptr _ _, r1.one _, rfl, rfl, w, fun hq => ⟨q1, q2 (Plain.env tblK (gE 0)), end_next (k - 1) (by omega) ?_⟩, fun hq => end_next (k - 1) (by omega) ?_⟩, fun q => by simp [h3] at q⟩, fun q => by simp [Bool.cond_eq_ite] at q; omega⟩
   ·refine ⟨i + 1, J2 ++ (some ⟨.fix, [.int .i64 (wn x 1 7), .int .i64 (wn (IntKind.wrap .i64 (Int.tdiv x 7)) 0 3)]⟩ :: K ++ (some ⟨.fix, [.int .i64 (wn x 1 7), .int .i64 (wn (IntKind.wrap .i64 (Int.tdiv x 7)) 0 3)]⟩ :: X)), a2, c2, by omega, ?_, by simp [denH, denL, It.den, den0], ?_⟩
    ·rw [nx false (by simpa using hq), wrap64 (x := (i : Int) + 1) (by omega) (by omega)]
     simp only [Bool.false_eq_true, if_false, List.length_append, List.length_singleton]
     show denF _ _ = denF _ _; kernel_rfl
    ·rw [nx false (by simpa using hq)]
     simp only [Bool.false_eq_true, if_false, List.length_append, List.length_singleton, List.map_append, List.map_cons, List.map_nil]
     exact q3
   ·refine ⟨i + 1, J ++ (some ⟨.fix, [.int .i64 (wn x 1 7), .int .i64 (wn (IntKind.wrap .i64 (Int.tdiv x 7)) 0 3)]⟩ :: K), al, cl, by omega, ?_, by simp [denH, denL, It.den, den0], ?_⟩
    ·rw [nx true (by simpa using hq), wrap64 (x := (i : Int) + 1) (by omega) (by omega)]
     simp only [if_true]
     show denF _ _ = denF _ _; kernel_rfl
    ·rw [nx true (by simpa using hq)]
     simp only [if_true]
     exact hl.more _
  ·have es : stepOf x = ⟨wn x 1 7, 0⟩ := by unfold stepOf; rw [if_neg h3]
   obtain ⟨e, t1, h1, ⟨K, rfl, rfl, rfl⟩, w⟩ := (loopC (k0 := k0) (m := 1) (i := (i : Int)) (x := stepOf x) hJ (by omega)).exact
   rw [es] at w
   obtain ⟨a2, c2, J2, X, q1, q2, q3⟩ := appRow (I := [.seg H, kB k0 k1 k2 k3 k4 k5 k6 k7 k8 k9 k10 k11 k12 (.raw u0) (.raw u1) (.raw u2) (.raw u3) (.raw u4) (rS as_ zs.length cs) (.raw u6), dZ, dB d0 d1 d2 (.raw L) (.raw N) d3 d4 d5 d6 d7 d8 d9 d10 d11 d12 (.raw S0) (.raw S1) (.raw S2), .seg Y]) (R := [.blk .fix [sI (wn x 1 7), sI 0], .seg K]) (R0 := some ⟨.fix, [.int .i64 (wn x 1 7), .int .i64 0]⟩ :: K) (w := 2) (eby := 16) (row := [.int .i64 (wn x 1 7), .int .i64 0]) (cs := [sI (wn x 1 7), sI 0]) rfl (fun f => by simp [denL, It.den, den0]) hl (fun _ => rfl) rfl (by decide) (by simp; omega) (by simp; omega)
   rw [List.length_map] at q2 q3
   have nx : (q : Bool) → hasS l ⟨(wn x 1 7), 0⟩ = q → (zs.take (i + 1)).foldl stepAdd [] = if q then l else l ++ [⟨(wn x 1 7), 0⟩] := fun q hq => by
    rw [WB.take_one hx, List.foldl_append, ← el]; simp only [List.foldl_cons, List.foldl_nil, stepAdd, es, hq]
   refine Wp.tree (cE_ok 0) (tree41s1 k0 k1 k2 k3 k4 k5 k6 k7 k8 k9 k10 k11 k12 d0 d1 d2 d3 d4 d5 d6 d7 d8 d9 d10 d11 d12 u0 u1 u2 u3 u4 u5 u6 L N S0 S1 S2 as_ al a2 zs.length cs l.length cl (l.length + 1) c2 i x (hasS l ⟨(wn x 1 7), 0⟩) b1 o1 H Y J J2 K X) ⟨rfl, rfl⟩ ⟨bif_tt _, fun _ => ⟨r1.ptr _ _, r1.one _, rfl, fun q => by simp [h3] at q, fun _ => ⟨w, fun hq => ⟨q1, q2 (Plain.env tblK (gE 0)), end_next (k - 1) (by omega) ?_⟩, fun hq => end_next (k - 1) (by omega) ?_⟩⟩, fun q => by simp [Bool.cond_eq_ite] at q; omega⟩
   ·refine ⟨i + 1, J2 ++ (some ⟨.fix, [.int .i64 (wn x 1 7), .int .i64 0]⟩ :: K ++ (some ⟨.fix, [.int .i64 (wn x 1 7), .int .i64 0]⟩ :: X)), a2, c2, by omega, ?_, by simp [denH, denL, It.den, den0], ?_⟩
    ·rw [nx false (by simpa using hq), wrap64 (x := (i : Int) + 1) (by omega) (by omega)]
     simp only [Bool.false_eq_true, if_false, List.length_append, List.length_singleton]
     show denF _ _ = denF _ _; kernel_rfl
    ·rw [nx false (by simpa using hq)]
     simp only [Bool.false_eq_true, if_false, List.length_append, List.length_singleton, List.map_append, List.map_cons, List.map_nil]
     exact q3
   ·refine ⟨i + 1, J ++ (some ⟨.fix, [.int .i64 (wn x 1 7), .int .i64 0]⟩ :: K), al, cl, by omega, ?_, by simp [denH, denL, It.den, den0], ?_⟩
    ·rw [nx true (by simpa using hq), wrap64 (x := (i : Int) + 1) (by omega) (by omega)]
     simp only [if_true]
     show denF _ _ = denF _ _; kernel_rfl
    ·rw [nx true (by simpa using hq)]
     simp only [if_true]
     exact hl.more _
 ·have hil : i = min zs.length 12 := by omega
  refine Wp.tree (cE_ok 0) (tree41s1 k0 k1 k2 k3 k4 k5 k6 k7 k8 k9 k10 k11 k12 d0 d1 d2 d3 d4 d5 d6 d7 d8 d9 d10 d11 d12 u0 u1 u2 u3 u4 u5 u6 L N S0 S1 S2 as_ al al zs.length cs ((zs.take i).foldl stepAdd []).length cl 0 0 i 0 false 0 0 H Y J J [] []) ⟨rfl, rfl⟩ ⟨bif_tt _, fun q => by simp [Bool.cond_eq_ite] at q; omega, fun _ => end_exit ?_⟩
  have et : zs.take i = zs.take 12 := by
   rw [hil]
   rcases Nat.le_total zs.length 12 with h | h
   ·rw [Nat.min_eq_left h, List.take_length, List.take_of_length_le h]
   ·rw [Nat.min_eq_right h]
  rw [et] at hl ⊢
  exact ⟨J, al, cl, ⟨rfl, by show denF _ _ = denF _ _; kernel_rfl, rfl⟩, hl⟩
theorem loopD2 {H Y : Heap} {k0 k1 k2 k3 k4 k5 k6 k7 k8 k9 k10 k11 k12 d0 d1 d2 d3 d4 d5 d6 d7 d8 d9 d10 d11 d12 : Int} {u0 u1 u2 u3 u4 u5 u6 L N S0 S1 S2 : Value} {as_ : Option Addr} {cs : Nat} {zs : List Int} (hz : RowsW 1 H (.slice as_ zs.length cs) (zs.map ir)) :
  Wp (Plain.env tblK (gE 0)) (inL [1, 2, 3, 9, 10, 119]) (.block 6 (.loop body41_6)) (denF [.seg H, kB k0 k1 k2 k3 k4 k5 k6 k7 k8 k9 k10 k11 k12 (.raw u0) (.raw u1) (.raw u2) (.raw u3) (.raw u4) (.raw u5) (rS as_ zs.length cs), dZ, dB d0 d1 d2 (.raw L) (.raw N) d3 d4 d5 d6 d7 d8 d9 d10 d11 d12 (.raw S0) (.raw S1) (.raw S2), .seg Y] (frS 192 [(1, (.ptr 1 0)), (2, (.ptr 2 0)), (3, (.ptr 3 0)), (9, sI 2), (10, nS), (11, sI 0), (119, sI 2)])) (denH [.seg H, kB k0 k1 k2 k3 k4 k5 k6 k7 k8 k9 k10 k11 k12 (.raw u0) (.raw u1) (.raw u2) (.raw u3) (.raw u4) (.raw u5) (rS as_ zs.length cs), dZ, dB d0 d1 d2 (.raw L) (.raw N) d3 d4 d5 d6 d7 d8 d9 d10 d11 d12 (.raw S0) (.raw S1) (.raw S2), .seg Y]) fun e s h => ∃ (X : Heap) (al : Option Addr) (cl : Nat), (e = .normal ∧ s = denF [.seg H, kB k0 k1 k2 k3 k4 k5 k6 k7 k8 k9 k10 k11 k12 (.raw u0) (.raw u1) (.raw u2) (.raw u3) (.raw u4) (.raw u5) (rS as_ zs.length cs), dZ, dB d0 d1 d2 (.raw L) (.raw N) d3 d4 d5 d6 d7 d8 d9 d10 d11 d12 (.raw S0) (.raw S1) (.raw S2), .seg Y, .seg X] (frS 192 [(1, (.ptr 1 0)), (2, (.ptr 2 0)), (3, (.ptr 3 0)), (9, sI 2), (10, (rS al (stepsL zs).length cl)), (119, sI 2)]) ∧ h = denH [.seg H, kB k0 k1 k2 k3 k4 k5 k6 k7 k8 k9 k10 k11 k12 (.raw u0) (.raw u1) (.raw u2) (.raw u3) (.raw u4) (.raw u5) (rS as_ zs.length cs), dZ, dB d0 d1 d2 (.raw L) (.raw N) d3 d4 d5 d6 d7 d8 d9 d10 d11 d12 (.raw S0) (.raw S1) (.raw S2), .seg Y, .seg X]) ∧ LsS 2 (denH [.seg H, kB k0 k1 k2 k3 k4 k5 k6 k7 k8 k9 k10 k11 k12 (.raw u0) (.raw u1) (.raw u2) (.raw u3) (.raw u4) (.raw u5) (rS as_ zs.length cs), dZ, dB d0 d1 d2 (.raw L) (.raw N) d3 d4 d5 d6 d7 d8 d9 d10 d11 d12 (.raw S0) (.raw S1) (.raw S2), .seg Y]) X (.slice al (stepsL zs).length cl) ((stepsL zs).map e2) := by
 refine Wp.bl (fun k t h => ∃ (i : Nat) (J : Heap) (al : Option Addr) (cl : Nat), i + k = min zs.length 12 ∧ t = denF [.seg H, kB k0 k1 k2 k3 k4 k5 k6 k7 k8 k9 k10 k11 k12 (.raw u0) (.raw u1) (.raw u2) (.raw u3) (.raw u4) (.raw u5) (rS as_ zs.length cs), dZ, dB d0 d1 d2 (.raw L) (.raw N) d3 d4 d5 d6 d7 d8 d9 d10 d11 d12 (.raw S0) (.raw S1) (.raw S2), .seg Y, .seg J] (frS 192 [(1, (.ptr 1 0)), (2, (.ptr 2 0)), (3, (.ptr 3 0)), (9, sI 2), (10, (rS al ((zs.take i).foldl stepAdd []).length cl)), (11, sI i), (119, sI 2)]) ∧ h = denH [.seg H, kB k0 k1 k2 k3 k4 k5 k6 k7 k8 k9 k10 k11 k12 (.raw u0) (.raw u1) (.raw u2) (.raw u3) (.raw u4) (.raw u5) (rS as_ zs.length cs), dZ, dB d0 d1 d2 (.raw L) (.raw N) d3 d4 d5 d6 d7 d8 d9 d10 d11 d12 (.raw S0) (.raw S1) (.raw S2), .seg Y, .seg J] ∧ LsS 2 (denH [.seg H, kB k0 k1 k2 k3 k4 k5 k6 k7 k8 k9 k10 k11 k12 (.raw u0) (.raw u1) (.raw u2) (.raw u3) (.raw u4) (.raw u5) (rS as_ zs.length cs), dZ, dB d0 d1 d2 (.raw L) (.raw N) d3 d4 d5 d6 d7 d8 d9 d10 d11 d12 (.raw S0) (.raw S1) (.raw S2), .seg Y]) J (.slice al ((zs.take i).foldl stepAdd []).length cl) (((zs.take i).foldl stepAdd []).map e2)) ?_ (min zs.length 12) _ _
  ⟨0, [], none, 0, by omega, by show denF _ _ = denF _ _; kernel_rfl, by simp [denH, denL, It.den, den0, e2, e3], .inl ⟨rfl, rfl⟩⟩
 rintro k t h ⟨i, J, al, cl, hi, rfl, rfl, hl⟩
 have hln : ((zs.take i).foldl stepAdd []).length ≤ i := by
  have := fold_len (zs.take i) []
  rw [List.length_take] at this
  simp only [List.length_nil] at this
  omega
 by_cases hlt : i < min zs.length 12
 ·obtain ⟨x, hx⟩ := getE (show i < zs.length by omega)
  obtain ⟨b1, o1, r1⟩ := hz.rowM hx
  obtain ⟨l, el⟩ : ∃ l, l = (zs.take i).foldl stepAdd [] := ⟨_, rfl⟩
  rw [← el] at hl hln ⊢
  have hJ : RowsW 2 (denH [.seg H, kB k0 k1 k2 k3 k4 k5 k6 k7 k8 k9 k10 k11 k12 (.raw u0) (.raw u1) (.raw u2) (.raw u3) (.raw u4) (.raw u5) (rS as_ zs.length cs), dZ, dB d0 d1 d2 (.raw L) (.raw N) d3 d4 d5 d6 d7 d8 d9 d10 d11 d12 (.raw S0) (.raw S1) (.raw S2), .seg Y, .seg J]) (.slice al l.length cl) (l.map e2) := LsS.rowsI (I := [.seg H, kB k0 k1 k2 k3 k4 k5 k6 k7 k8 k9 k10 k11 k12 (.raw u0) (.raw u1) (.raw u2) (.raw u3) (.raw u4) (.raw u5) (rS as_ zs.length cs), dZ, dB d0 d1 d2 (.raw L) (.raw N) d3 d4 d5 d6 d7 d8 d9 d10 d11 d12 (.raw S0) (.raw S1) (.raw S2), .seg Y]) (K := [.seg J]) rfl hl (by decide) (by simp [denL, It.den])
  by_cases h3 : wn x 1 7 = 3
  ·have es : stepOf x = ⟨wn x 1 7, wn (IntKind.wrap .i64 (Int.tdiv x 7)) 0 3⟩ := by unfold stepOf; rw [if_pos h3]
   obtain ⟨e, t1, h1, ⟨K, rfl, rfl, rfl⟩, w⟩ := (loopC (k0 := k0) (m := 2) (i := (i : Int)) (x := stepOf x) hJ (by omega)).exact
   rw [es] at w
   obtain ⟨a2, c2, J2, X, q1, q2, q3⟩ := appRow (I := [.seg H, kB k0 k1 k2 k3 k4 k5 k6 k7 k8 k9 k10 k11 k12 (.raw u0) (.raw u1) (.raw u2) (.raw u3) (.raw u4) (.raw u5) (rS as_ zs.length cs), dZ, dB d0 d1 d2 (.raw L) (.raw N) d3 d4 d5 d6 d7 d8 d9 d10 d11 d12 (.raw S0) (.raw S1) (.raw S2), .seg Y]) (R := [.blk .fix [sI (wn x 1 7), sI (wn (IntKind.wrap .i64 (Int.tdiv x 7)) 0 3)], .seg K]) (R0 := some ⟨.fix, [.int .i64 (wn x 1 7), .int .i64 (wn (IntKind.wrap .i64 (Int.tdiv x 7)) 0 3)]⟩ :: K) (w := 2) (eby := 16) (row := [.int .i64 (wn x 1 7), .int .i64 (wn (IntKind.wrap .i64 (Int.tdiv x 7)) 0 3)]) (cs := [sI (wn x 1 7), sI (wn (IntKind.wrap .i64 (Int.tdiv x 7)) 0 3)]) rfl (fun f => by simp [denL, It.den, den0]) hl (fun _ => rfl) rfl (by decide) (by simp; omega) (by simp; omega)
   rw [List.length_map] at q2 q3
   have nx : (q : Bool) → hasS l ⟨(wn x 1 7), (wn (IntKind.wrap .i64 (Int.tdiv x 7)) 0 3)⟩ = q → (zs.take (i + 1)).foldl stepAdd [] = if q then l else l ++ [⟨(wn x 1 7), (wn (IntKind.wrap .i64 (Int.tdiv x 7)) 0 3)⟩] := fun q hq => by
    rw [WB.take_one hx, List.foldl_append, ← el]; simp only [List.foldl_cons, List.foldl_nil, stepAdd, es, hq]
   refine Wp.tree (cE_ok 0) (tree41s2 k0 k1 k2 k3 k4 k5 k6 k7 k8 k9 k10 k11 k12 d0 d1 d2 d3 d4 d5 d6 d7 d8 d9 d10 d11 d12 u0 u1 u2 u3 u4 u5 u6 L N S0 S1 S2 as_ al a2 zs.length cs l.length cl (l.length + 1) c2 i x (hasS l ⟨(wn x 1 7), (wn (IntKind.wrap .i64 (Int.tdiv x 7)) 0 3)⟩) b1 o1 H Y J J2 K X) ⟨rfl, rfl⟩ ⟨bif_tt _, fun _ => ⟨r1.ptr _ _, r1.one _, rfl, fun _ => ⟨r1.ptr _ _, r1.one _, rfl, rfl, w, fun hq => ⟨q1, q2 (Plain.env tblK (gE 0)), end_next (k - 1) (by omega) ?_⟩, fun hq => end_next (k - 1) (by omega) ?_⟩, fun q => by simp [h3] at q⟩, fun q => by simp [Bool.cond_eq_ite] at q; omega⟩
   ·refine ⟨i + 1, J2 ++ (some ⟨.fix, [.int .i64 (wn x 1 7), .int .i64 (wn (IntKind.wrap .i64 (Int.tdiv x 7)) 0 3)]⟩ :: K ++ (some ⟨.fix, [.int .i64 (wn x 1 7), .int .i64 (wn (IntKind.wrap .i64 (Int.tdiv x 7)) 0 3)]⟩ :: X)), a2, c2, by omega, ?_, by simp [denH, denL, It.den, den0], ?_⟩
    ·rw [nx false (by simpa using hq), wrap64 (x := (i : Int) + 1) (by omega) (by omega)]
     simp only [Bool.false_eq_true, if_false, List.length_append, List.length_singleton]
     show denF _ _ = denF _ _; kernel_rfl
    ·rw [nx false (by simpa using hq)]
     simp only [Bool.false_eq_true, if_false, List.length_append, List.length_singleton, List.map_append, List.map_cons, List.map_nil]
     exact q3
   ·refine ⟨i + 1, J ++ (some ⟨.fix, [.int .i64 (wn x 1 7), .int .i64 (wn (IntKind.wrap .i64 (Int.tdiv x 7)) 0 3)]⟩ :: K), al, cl, by omega, ?_, by simp [denH, denL, It.den, den0], ?_⟩
    ·rw [nx true (by simpa using hq), wrap64 (x := (i : Int) + 1) (by omega) (by omega)]
     simp only [if_true]
     show denF _ _ = denF _ _; kernel_rfl
    ·rw [nx true (by simpa using hq)]
     simp only [if_true]
     exact hl.more _
  ·have es : stepOf x = ⟨wn x 1 7, 0⟩ := by unfold stepOf; rw [if_neg h3]
   obtain ⟨e, t1, h1, ⟨K, rfl, rfl, rfl⟩, w⟩ := (loopC (k0 := k0) (m := 2) (i := (i : Int)) (x := stepOf x) hJ (by omega)).exact
   rw [es] at w
   obtain ⟨a2, c2, J2, X, q1, q2, q3⟩ := appRow (I := [.seg H, kB k0 k1 k2 k3 k4 k5 k6 k7 k8 k9 k10 k11 k12 (.raw u0) (.raw u1) (.raw u2) (.raw u3) (.raw u4) (.raw u5) (rS as_ zs.length cs), dZ, dB d0 d1 d2 (.raw L) (.raw N) d3 d4 d5 d6 d7 d8 d9 d10 d11 d12 (.raw S0) (.raw S1) (.raw S2), .seg Y]) (R := [.blk .fix [sI (wn x 1 7), sI 0], .seg K]) (R0 := some ⟨.fix, [.int .i64 (wn x 1 7), .int .i64 0]⟩ :: K) (w := 2) (eby := 16) (row := [.int .i64 (wn x 1 7), .int .i64 0]) (cs := [sI (wn x 1 7), sI 0]) rfl (fun f => by simp [denL, It.den, den0]) hl (fun _ => rfl) rfl (by decide) (by simp; omega) (by simp; omega)
   rw [List.length_map] at q2 q3
   have nx : (q : Bool) → hasS l ⟨(wn x 1 7), 0⟩ = q → (zs.take (i + 1)).foldl stepAdd [] = if q then l else l ++ [⟨(wn x 1 7), 0⟩] := fun q hq => by
    rw [WB.take_one hx, List.foldl_append, ← el]; simp only [List.foldl_cons, List.foldl_nil, stepAdd, es, hq]
   refine Wp.tree (cE_ok 0) (tree41s2 k0 k1 k2 k3 k4 k5 k6 k7 k8 k9 k10 k11 k12 d0 d1 d2 d3 d4 d5 d6 d7 d8 d9 d10 d11 d12 u0 u1 u2 u3 u4 u5 u6 L N S0 S1 S2 as_ al a2 zs.length cs l.length cl (l.length + 1) c2 i x (hasS l ⟨(wn x 1 7), 0⟩) b1 o1 H Y J J2 K X) ⟨rfl, rfl⟩ ⟨bif_tt _, fun _ => ⟨r1.ptr _ _, r1.one _, rfl, fun q => by simp [h3] at q, fun _ => ⟨w, fun hq => ⟨q1, q2 (Plain.env tblK (gE 0)), end_next (k - 1) (by omega) ?_⟩, fun hq => end_next (k - 1) (by omega) ?_⟩⟩, fun q => by simp [Bool.cond_eq_ite] at q; omega⟩
   ·refine ⟨i + 1, J2 ++ (some ⟨.fix, [.int .i64 (wn x 1 7), .int .i64 0]⟩ :: K ++ (some ⟨.fix, [.int .i64 (wn x 1 7), .int .i64 0]⟩ :: X)), a2, c2, by omega, ?_, by simp [denH, denL, It.den, den0], ?_⟩
    ·rw [nx false (by simpa using hq), wrap64 (x := (i : Int) + 1) (by omega) (by omega)]
     simp only [Bool.false_eq_true, if_false, List.length_append, List.length_singleton]
     show denF _ _ = denF _ _; kernel_rfl
    ·rw [nx false (by simpa using hq)]
     simp only [Bool.false_eq_true, if_false, List.length_append, List.length_singleton, List.map_append, List.map_cons, List.map_nil]
     exact q3
   ·refine ⟨i + 1, J ++ (some ⟨.fix, [.int .i64 (wn x 1 7), .int .i64 0]⟩ :: K), al, cl, by omega, ?_, by simp [denH, denL, It.den, den0], ?_⟩
    ·rw [nx true (by simpa using hq), wrap64 (x := (i : Int) + 1) (by omega) (by omega)]
     simp only [if_true]
     show denF _ _ = denF _ _; kernel_rfl
    ·rw [nx true (by simpa using hq)]
     simp only [if_true]
     exact hl.more _
 ·have hil : i = min zs.length 12 := by omega
  refine Wp.tree (cE_ok 0) (tree41s2 k0 k1 k2 k3 k4 k5 k6 k7 k8 k9 k10 k11 k12 d0 d1 d2 d3 d4 d5 d6 d7 d8 d9 d10 d11 d12 u0 u1 u2 u3 u4 u5 u6 L N S0 S1 S2 as_ al al zs.length cs ((zs.take i).foldl stepAdd []).length cl 0 0 i 0 false 0 0 H Y J J [] []) ⟨rfl, rfl⟩ ⟨bif_tt _, fun q => by simp [Bool.cond_eq_ite] at q; omega, fun _ => end_exit ?_⟩
  have et : zs.take i = zs.take 12 := by
   rw [hil]
   rcases Nat.le_total zs.length 12 with h | h
   ·rw [Nat.min_eq_left h, List.take_length, List.take_of_length_le h]
   ·rw [Nat.min_eq_right h]
  rw [et] at hl ⊢
  exact ⟨J, al, cl, ⟨rfl, by show denF _ _ = denF _ _; kernel_rfl, rfl⟩, hl⟩
end K
end Go.Proofs.Ytgdojnamjkhknaa
