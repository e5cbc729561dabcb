/-
  dealdoc: a deal's numbers and bytes.
-/
import Derived.Test.YtgdojnamjkhknaaQdD5
import Derived.Test.YtgdojnamjkhknaaQdLl
namespace Go.Proofs.Ytgdojnamjkhknaa
open Go.Am
set_option linter.all false
set_option maxRecDepth 100000
namespace DE
open WB (byt byt_len)
open D (DV DlW dVal preD preD_u rightB)
abbrev dB (d0 d1 d2 : Int) (L N : SV) (d3 d4 d5 d6 d7 d8 d9 d10 d11 d12 : Int) (S0 S1 S2 : SV) : It := .blk .fix [sI d0, sI d1, sI d2, L, N, sI d3, sI d4, sI d5, sI d6, sI d7, sI d8, sI d9, sI d10, sI d11, sI d12, S0, S1, S2]
abbrev dZ : It := dB 0 0 0 nS nS 0 0 0 0 0 0 0 0 0 0 nS nS nS
abbrev dX (al an a0 a1 a2 : Option Addr) (nl cl nn cn n0 c0 n1 c1 n2 c2 : Nat) (y mo ba fe re ta ad cu oc ic la lo ce : Int) : It := dB y mo ba (rS al nl cl) (rS an nn cn) fe re ta ad cu oc ic la lo ce (rS a0 n0 c0) (rS a1 n1 c1) (rS a2 n2 c2)
abbrev dD (d : DV) (al an a0 a1 a2 : Option Addr) (cl cn c0 c1 c2 : Nat) : It := dB d.y d.mo d.ba (rS al d.l.length cl) (rS an d.n.length cn) d.fe d.re d.ta d.ad d.cu d.oc d.ic d.la d.lo d.ce (rS a0 d.s0.length c0) (rS a1 d.s1.length c1) (rS a2 d.s2.length c2)
def flat2 (l : List R2) : List Int := l.flatMap fun x => [x.a, x.b]
def flat3 (l : List R3) : List Int := l.flatMap fun x => [x.a, x.b, x.c]
def stepsI (s : List R2) : List Int := (s.length : Int) :: flat2 s
theorem flat2_len : ∀ l : List R2, (flat2 l).length = 2 * l.length
 | [] => rfl
 | x :: r => by have := flat2_len r; simp only [flat2, List.flatMap_cons, List.length_append, List.length_cons] at this ⊢; rw [this]; simp; omega
theorem flat3_len : ∀ l : List R3, (flat3 l).length = 3 * l.length
 | [] => rfl
 | x :: r => by have := flat3_len r; simp only [flat3, List.flatMap_cons, List.length_append, List.length_cons] at this ⊢; rw [this]; simp; omega
theorem flat2_snoc (l : List R2) (x : R2) : flat2 (l ++ [x]) = flat2 l ++ [x.a, x.b] := by simp [flat2]
theorem flat3_snoc (l : List R3) (x : R3) : flat3 (l ++ [x]) = flat3 l ++ [x.a, x.b, x.c] := by simp [flat3]
def headI (d : DV) : List Int := [d.y, d.mo, d.ba, d.fe, d.re, d.ta, d.ad, d.cu, d.oc, d.ic, d.la, d.lo, d.ce]
def dealI (d : DV) : List Int := headI d ++ [(d.l.length : Int)] ++ flat2 d.l ++ [(d.n.length : Int)] ++ flat3 d.n ++ stepsI d.s0 ++ stepsI d.s1 ++ stepsI d.s2
def encD (d : DV) : List Int := if rightB d then byt (dealI d) else []
structure DLim (d : DV) : Prop where
 l : d.l.length ≤ 1000
 n : d.n.length ≤ 1000
 s0 : d.s0.length ≤ 1000
 s1 : d.s1.length ≤ 1000
 s2 : d.s2.length ≤ 1000
theorem two_seg (A B : Heap) : denH [.seg A, .seg B] = A ++ B := by simp [denH, denL, It.den]
theorem right_lim {d : DV} (h : rightB d = true) : DLim d := by
 simp only [rightB, Bool.and_eq_true] at h
 obtain ⟨⟨⟨⟨⟨h1, h2⟩, _⟩, h3⟩, h4⟩, h5⟩ := h
 have st : ∀ {s : List R2}, D.stpF s = true → s.length ≤ 1000 := fun {s} h => by
  unfold D.stpF at h
  split at h
  ·omega
  ·cases h
 refine ⟨?_, ?_, st h3, st h4, st h5⟩
 ·unfold D.A.lnF at h1
  split at h1
  ·omega
  ·cases h1
 ·unfold D.ntF at h2
  split at h2
  ·omega
  ·cases h2
theorem dealI_len (d : DV) : (dealI d).length = 18 + 2 * d.l.length + 3 * d.n.length + 2 * d.s0.length + 2 * d.s1.length + 2 * d.s2.length := by
 simp [dealI, headI, stepsI, flat2_len, flat3_len]; try omega
namespace E67
noncomputable def gK : Env := fun f => match f with
 | 23 => smry WB.preB WB.resB
 | 37 => smry preD fun d h => (.bool (rightB d), h)
 | _ => fun _ _ => none
theorem gK_ok : EnvOk Try.prog gK := fun f => by
 unfold gK
 split
 ·exact WB.summB
 ·exact D.U.sims.1
 ·exact fun args h v h' e => by cases e
theorem gK_q : QuietEnv qt gK := fun f args h v h' hf e => by cases hf
noncomputable abbrev gE (k : Nat) : Env := inE [] [] k gK
noncomputable abbrev cE (k : Nat) : CallS := callS [] [] gK 100 k
theorem gE_q (k : Nat) : QuietEnv qt (Plain.env [] (gE k)) := Plain.quiet (inE_quiet gK_q (fun f F h => by cases h) k)
theorem gE_ok (k : Nat) : EnvOk Try.prog (Plain.env [] (gE k)) := Plain.ok .nil (inE_ok (qt := qt) mixed .nil .nil (fun f F h => by cases h) gK_ok gK_q k)
theorem cE_ok (k : Nat) : CallOk (Plain.env [] (gE k)) (cE k) := callS_ok k
def body67_0 : IL := .seq (.reg [ oT 55 (.bin .lss (.tmp 54) (.tmp 53))]) (.seq (.ite (.tmp 55) (.skip) (.exit 0)) (.seq (.block 1 (.seq (.reg [ oT 56 (.iadr 2 none (.tmp 52) (.tmp 54)), oT 57 (.load (.tmp 56) (some 2)), oT 6 (.alloc [(.int .i64 0), (.int .i64 0)]), oN (.store (.tmp 6) (.tmp 57) 2)]) (.reg [ oT 58 (.mov (.tmp 4)), oT 59 (.fadr 0 (.tmp 6)), oT 60 (.load (.tmp 59) none), oT 61 (.fadr 1 (.tmp 6)), oT 62 (.load (.tmp 61) none), oT 63 (.mkrow [(.int .i64 0), (.int .i64 0)] 2 [(0, 1, (.tmp 60)), (1, 1, (.tmp 62))]), oT 64 (.append 1 8 (.tmp 58) (.tmp 63)), oT 4 (.mov (.tmp 64))]))) (.reg [ oT 65 (.bin .add (.tmp 54) (kI 1)), oT 54 (.mov (.tmp 65))])))
def body67_6 : IL := .seq (.reg [ oT 102 (.bin .lss (.tmp 101) (.tmp 100))]) (.seq (.ite (.tmp 102) (.skip) (.exit 6)) (.seq (.block 7 (.seq (.reg [ oT 103 (.iadr 2 none (.tmp 99) (.tmp 101)), oT 104 (.load (.tmp 103) (some 2)), oT 12 (.alloc [(.int .i64 0), (.int .i64 0)]), oN (.store (.tmp 12) (.tmp 104) 2)]) (.reg [ oT 105 (.mov (.tmp 4)), oT 106 (.fadr 0 (.tmp 12)), oT 107 (.load (.tmp 106) none), oT 108 (.fadr 1 (.tmp 12)), oT 109 (.load (.tmp 108) none), oT 110 (.mkrow [(.int .i64 0), (.int .i64 0)] 2 [(0, 1, (.tmp 107)), (1, 1, (.tmp 109))]), oT 111 (.append 1 8 (.tmp 105) (.tmp 110)), oT 4 (.mov (.tmp 111))]))) (.reg [ oT 112 (.bin .add (.tmp 101) (kI 1)), oT 101 (.mov (.tmp 112))])))
def body67_2 : IL := .seq (.reg [ oT 76 (.bin .lss (.tmp 75) (.tmp 74))]) (.seq (.ite (.tmp 76) (.skip) (.exit 2)) (.seq (.block 3 (.seq (.reg [ oT 77 (.iadr 3 none (.tmp 73) (.tmp 75)), oT 78 (.load (.tmp 77) (some 3)), oT 8 (.alloc [(.int .i64 0), (.int .i64 0), (.int .i64 0)]), oN (.store (.tmp 8) (.tmp 78) 3)]) (.reg [ oT 79 (.mov (.tmp 4)), oT 80 (.fadr 0 (.tmp 8)), oT 81 (.load (.tmp 80) none), oT 82 (.fadr 1 (.tmp 8)), oT 83 (.load (.tmp 82) none), oT 84 (.fadr 2 (.tmp 8)), oT 85 (.load (.tmp 84) none), oT 86 (.mkrow [(.int .i64 0), (.int .i64 0), (.int .i64 0)] 3 [(0, 1, (.tmp 81)), (1, 1, (.tmp 83)), (2, 1, (.tmp 85))]), oT 87 (.append 1 8 (.tmp 79) (.tmp 86)), oT 4 (.mov (.tmp 87))]))) (.reg [ oT 88 (.bin .add (.tmp 75) (kI 1)), oT 75 (.mov (.tmp 88))])))
def body67_4 : IL := .seq (.reg [ oT 92 (.bin .lss (.tmp 91) (kI 3))]) (.seq (.ite (.tmp 92) (.skip) (.exit 4)) (.seq (.block 5 (.seq (.reg [ oT 93 (.idx 1 3 none (.tmp 90) (.tmp 91)), oT 10 (.mov (.tmp 93))]) (.seq (.reg [ oT 94 (.mov (.tmp 4)), oT 95 (.mov (.tmp 10)), oT 96 (.len (.tmp 95)), oT 97 (.mkrow [(.int .i64 0)] 1 [(0, 1, (.tmp 96))]), oT 98 (.append 1 8 (.tmp 94) (.tmp 97)), oT 4 (.mov (.tmp 98))]) (.seq (.reg [ oT 99 (.mov (.tmp 10)), oT 100 (.len (.tmp 99)), oT 101 (.mov (kI 0))]) (.block 6 (.loop (body67_6))))))) (.reg [ oT 113 (.bin .add (.tmp 91) (kI 1)), oT 91 (.mov (.tmp 113))])))
def il67 : FnIL := ⟨116, [.tmp 2], .seq (.reg [ oT 1 (.box (.tmp 0)), oT 2 (.mov (.const (.slice none 0 0)))]) (.seq (.seq (.reg [ oT 13 (.load (.tmp 1) (some 18)), oT 14 (.call 37 [(.tmp 13)]), oT 15 (.un .not (.tmp 14))]) (.ite (.tmp 15) (.seq (.reg [ oT 2 (.mov (.const (.slice none 0 0)))]) (.ret)) (.skip))) (.seq (.reg [ oT 16 (.fadr 10 (.tmp 1)), oT 17 (.load (.tmp 16) (some 5)), oT 3 (.alloc [(.int .i64 0), (.int .i64 0), (.int .i64 0), (.int .i64 0), (.int .i64 0)]), oN (.store (.tmp 3) (.tmp 17) 5)]) (.seq (.reg [ oT 18 (.fadr 0 (.tmp 1)), oT 19 (.load (.tmp 18) none), oT 20 (.fadr 1 (.tmp 1)), oT 21 (.load (.tmp 20) none), oT 22 (.fadr 2 (.tmp 1)), oT 23 (.load (.tmp 22) none), oT 24 (.fadr 5 (.tmp 1)), oT 25 (.load (.tmp 24) none), oT 26 (.fadr 6 (.tmp 1)), oT 27 (.load (.tmp 26) none), oT 28 (.fadr 7 (.tmp 1)), oT 29 (.load (.tmp 28) none), oT 30 (.fadr 8 (.tmp 1)), oT 31 (.load (.tmp 30) none), oT 32 (.fadr 9 (.tmp 1)), oT 33 (.load (.tmp 32) none), oT 34 (.fadr 0 (.tmp 3)), oT 35 (.load (.tmp 34) none), oT 36 (.fadr 1 (.tmp 3)), oT 37 (.load (.tmp 36) none), oT 38 (.fadr 2 (.tmp 3)), oT 39 (.load (.tmp 38) none), oT 40 (.fadr 3 (.tmp 3)), oT 41 (.load (.tmp 40) none), oT 42 (.fadr 4 (.tmp 3)), oT 43 (.load (.tmp 42) none), oT 44 (.mkrow [(.int .i64 0), (.int .i64 0), (.int .i64 0), (.int .i64 0), (.int .i64 0), (.int .i64 0), (.int .i64 0), (.int .i64 0), (.int .i64 0), (.int .i64 0), (.int .i64 0), (.int .i64 0), (.int .i64 0)] 13 [(0, 1, (.tmp 19)), (1, 1, (.tmp 21)), (2, 1, (.tmp 23)), (3, 1, (.tmp 25)), (4, 1, (.tmp 27)), (5, 1, (.tmp 29)), (6, 1, (.tmp 31)), (7, 1, (.tmp 33)), (8, 1, (.tmp 35)), (9, 1, (.tmp 37)), (10, 1, (.tmp 39)), (11, 1, (.tmp 41)), (12, 1, (.tmp 43))]), oT 4 (.mov (.tmp 44))]) (.seq (.reg [ oT 45 (.mov (.tmp 4)), oT 46 (.fadr 3 (.tmp 1)), oT 47 (.load (.tmp 46) none), oT 48 (.len (.tmp 47)), oT 49 (.mkrow [(.int .i64 0)] 1 [(0, 1, (.tmp 48))]), oT 50 (.append 1 8 (.tmp 45) (.tmp 49)), oT 4 (.mov (.tmp 50))]) (.seq (.seq (.reg [ oT 51 (.fadr 3 (.tmp 1)), oT 52 (.load (.tmp 51) none), oT 53 (.len (.tmp 52)), oT 54 (.mov (kI 0))]) (.block 0 (.loop (body67_0)))) (.seq (.reg [ oT 66 (.mov (.tmp 4)), oT 67 (.fadr 4 (.tmp 1)), oT 68 (.load (.tmp 67) none), oT 69 (.len (.tmp 68)), oT 70 (.mkrow [(.int .i64 0)] 1 [(0, 1, (.tmp 69))]), oT 71 (.append 1 8 (.tmp 66) (.tmp 70)), oT 4 (.mov (.tmp 71))]) (.seq (.seq (.reg [ oT 72 (.fadr 4 (.tmp 1)), oT 73 (.load (.tmp 72) none), oT 74 (.len (.tmp 73)), oT 75 (.mov (kI 0))]) (.block 2 (.loop (body67_2)))) (.seq (.seq (.reg [ oT 89 (.fadr 15 (.tmp 1)), oT 90 (.load (.tmp 89) (some 3)), oT 91 (.mov (kI 0))]) (.block 4 (.loop (body67_4)))) (.seq (.reg [ oT 114 (.mov (.tmp 4)), oT 115 (.call 23 [(.tmp 114)]), oT 2 (.mov (.tmp 115))]) (.ret))))))))))⟩
abbrev r67_0 : IL := il67.body
def c67_0 : IL := (splitS 4 r67_0).1
def r67_1 : IL := (splitS 4 r67_0).2
def c67_1 : IL := (splitS 0 r67_1).1
def r67_2 : IL := (splitS 0 r67_1).2
def ca67_1 : IL := (splitS 0 c67_1).1
def cb67_1 : IL := (splitS 0 c67_1).2
def c67_2 : IL := (splitS 0 r67_2).1
def r67_3 : IL := (splitS 0 r67_2).2
def c67_3 : IL := (splitS 0 r67_3).1
def r67_4 : IL := (splitS 0 r67_3).2
def ca67_3 : IL := (splitS 0 c67_3).1
def cb67_3 : IL := (splitS 0 c67_3).2
def c67_4 : IL := (splitS 0 r67_4).1
def r67_5 : IL := (splitS 0 r67_4).2
def ca67_4 : IL := (splitS 0 c67_4).1
def cb67_4 : IL := (splitS 0 c67_4).2
theorem st67 : stF Try.prog qt 67 = some il67 := by kernel_rfl
theorem tree67p (y mo ba fe re ta ad cu oc ic la lo ce : Int) (al an a0 a1 a2 : Option Addr) (nl cl nn cn n0 c0 n1 c1 n2 c2 : Nat) (av : Option Addr) (nv cv : Nat) (H X : Heap) : (fun (Z1 : It) => (fun (Z0 : SH) => (fun (Z2 : Value) => (fun (Z3 : SH) => pieceS [] (gE 0) (cE 0) 200 (fun i => (exL i r67_1 || resLv il67.res i)) c67_0 (.use 26000014 (sB true) ⟨[], []⟩ (.con (.use 30000050 (rS av nv cv) ⟨[], [.seg X]⟩ .nil))) (frS 116 [(0, (.raw Z2))]) [.seg H] =
(.claim (opA (Plain.env [] (gE 0)) (.call 37 [(.const Z2)]) [] (denH [.seg H, Z1]) = some ((.bool true), denH [.seg H, Z1]))
 (.claim (opA (Plain.env [] (gE 0)) (.append 1 8 (.const (denV (ofs Z0) (.sl 3 0 13 13))) (.const (denV (ofs Z0) (.sl 4 0 1 1)))) [] (denH Z0) = some ((.slice av nv cv), denH Z3))
 (.ret .normal (frS 116 [(1, (.ptr 1 0)), (2, nS), (4, (rS av nv cv))]) Z3)))) [.seg H, Z1, .blk .fix [(sI oc), (sI ic), (sI la), (sI lo), (sI ce)], .blk .fix [(sI y), (sI mo), (sI ba), (sI fe), (sI re), (sI ta), (sI ad), (sI cu), (sI oc), (sI ic), (sI la), (sI lo), (sI ce)], .blk .fix [(sI (nl : Int))], .seg X]) (.agg ⟨[(.int .i64 y), (.int .i64 mo), (.int .i64 ba), (.slice al nl cl), (.slice an nn cn), (.int .i64 fe), (.int .i64 re), (.int .i64 ta), (.int .i64 ad), (.int .i64 cu), (.int .i64 oc), (.int .i64 ic), (.int .i64 la), (.int .i64 lo), (.int .i64 ce), (.slice a0 n0 c0), (.slice a1 n1 c1), (.slice a2 n2 c2)]⟩)) [.seg H, Z1, .blk .fix [(sI oc), (sI ic), (sI la), (sI lo), (sI ce)], .blk .fix [(sI y), (sI mo), (sI ba), (sI fe), (sI re), (sI ta), (sI ad), (sI cu), (sI oc), (sI ic), (sI la), (sI lo), (sI ce)], .blk .fix [(sI (nl : Int))]]) (dX al an a0 a1 a2 nl cl nn cn n0 c0 n1 c1 n2 c2 y mo ba fe re ta ad cu oc ic la lo ce) := by show _ = _; kernel_rfl
theorem tree67w (y mo ba fe re ta ad cu oc ic la lo ce : Int) (al an a0 a1 a2 : Option Addr) (nl cl nn cn n0 c0 n1 c1 n2 c2 : Nat) (H : Heap) : (fun (Z0 : Value) => (fun (Z1 : SH) => fnS [] (gE 0) (cE 0) 100 il67 (.use 26000014 (sB false) ⟨[], []⟩ (.con .nil)) [(.raw Z0)] [.seg H] =
(.claim (opA (Plain.env [] (gE 0)) (.call 37 [(.const Z0)]) [] (denH Z1) = some ((.bool false), denH Z1))
 (.ret .ret [nS] Z1))) [.seg H, (dX al an a0 a1 a2 nl cl nn cn n0 c0 n1 c1 n2 c2 y mo ba fe re ta ad cu oc ic la lo ce)]) (.agg ⟨[(.int .i64 y), (.int .i64 mo), (.int .i64 ba), (.slice al nl cl), (.slice an nn cn), (.int .i64 fe), (.int .i64 re), (.int .i64 ta), (.int .i64 ad), (.int .i64 cu), (.int .i64 oc), (.int .i64 ic), (.int .i64 la), (.int .i64 lo), (.int .i64 ce), (.slice a0 n0 c0), (.slice a1 n1 c1), (.slice a2 n2 c2)]⟩) := by show _ = _; kernel_rfl
theorem tree67l (y mo ba fe re ta ad cu oc ic la lo ce : Int) (al an a0 a1 a2 : Option Addr) (nl cl nn cn n0 c0 n1 c1 n2 c2 : Nat) (av aw : Option Addr) (nv cv nw cw : Nat) (H J J2 X : Heap) : (fun (Z0 : SH) => pieceS [] (gE 0) (cE 0) 200 (fun i => exL i cb67_1 || (exL i r67_2 || resLv il67.res i)) ca67_1 (.nil) (frS 116 [(1, (.ptr 1 0)), (2, nS), (4, (rS av nv cv))]) Z0 =
(.ret .normal (frS 116 [(1, (.ptr 1 0)), (2, nS), (4, (rS av nv cv)), (52, (rS al nl cl)), (53, (sI (nl : Int))), (54, (sI 0))]) Z0)) [.seg H, (dX al an a0 a1 a2 nl cl nn cn n0 c0 n1 c1 n2 c2 y mo ba fe re ta ad cu oc ic la lo ce), .seg J] := by show _ = _; kernel_rfl
theorem tree67a (y mo ba fe re ta ad cu oc ic la lo ce : Int) (al an a0 a1 a2 : Option Addr) (nl cl nn cn n0 c0 n1 c1 n2 c2 : Nat) (av aw : Option Addr) (nv cv nw cw : Nat) (H J J2 X : Heap) : (fun (Z0 : It) => (fun (Z1 : SH) => (fun (Z2 : SH) => pieceS [] (gE 0) (cE 0) 200 (fun i => (exL i r67_3 || resLv il67.res i)) c67_2 (.use 30000071 (rS aw nw cw) ⟨[(2, .seg J2)], [.seg X]⟩ .nil) (frS 116 [(1, (.ptr 1 0)), (2, nS), (4, (rS av nv cv))]) [.seg H, Z0, .seg J] =
(.claim (List.length J2 = List.length J) (.claim (opA (Plain.env [] (gE 0)) (.append 1 8 (.const (.slice av nv cv)) (.const (denV (ofs Z2) (.sl 3 0 1 1)))) [] (denH Z2) = some ((.slice aw nw cw), denH Z1))
 (.ret .normal (frS 116 [(1, (.ptr 1 0)), (2, nS), (4, (rS aw nw cw))]) Z1)))) [.seg H, Z0, .seg J, .blk .fix [(sI (nn : Int))]]) [.seg H, Z0, .seg J2, .blk .fix [(sI (nn : Int))], .seg X]) (dX al an a0 a1 a2 nl cl nn cn n0 c0 n1 c1 n2 c2 y mo ba fe re ta ad cu oc ic la lo ce) := by show _ = _; kernel_rfl
theorem tree67n (y mo ba fe re ta ad cu oc ic la lo ce : Int) (al an a0 a1 a2 : Option Addr) (nl cl nn cn n0 c0 n1 c1 n2 c2 : Nat) (av aw : Option Addr) (nv cv nw cw : Nat) (H J J2 X : Heap) : (fun (Z0 : SH) => pieceS [] (gE 0) (cE 0) 200 (fun i => exL i cb67_3 || (exL i r67_4 || resLv il67.res i)) ca67_3 (.nil) (frS 116 [(1, (.ptr 1 0)), (2, nS), (4, (rS av nv cv))]) Z0 =
(.ret .normal (frS 116 [(1, (.ptr 1 0)), (2, nS), (4, (rS av nv cv)), (73, (rS an nn cn)), (74, (sI (nn : Int))), (75, (sI 0))]) Z0)) [.seg H, (dX al an a0 a1 a2 nl cl nn cn n0 c0 n1 c1 n2 c2 y mo ba fe re ta ad cu oc ic la lo ce), .seg J] := by show _ = _; kernel_rfl
theorem tree67s (y mo ba fe re ta ad cu oc ic la lo ce : Int) (al an a0 a1 a2 : Option Addr) (nl cl nn cn n0 c0 n1 c1 n2 c2 : Nat) (av aw : Option Addr) (nv cv nw cw : Nat) (H J J2 X : Heap) : (fun (Z0 : SH) => pieceS [] (gE 0) (cE 0) 200 (fun i => exL i cb67_4 || (exL i r67_5 || resLv il67.res i)) ca67_4 (.nil) (frS 116 [(1, (.ptr 1 0)), (2, nS), (4, (rS av nv cv))]) Z0 =
(.ret .normal (frS 116 [(2, nS), (4, (rS av nv cv)), (90, (.raw (.agg ⟨[(.slice a0 n0 c0), (.slice a1 n1 c1), (.slice a2 n2 c2)]⟩))), (91, (sI 0))]) Z0)) [.seg H, (dX al an a0 a1 a2 nl cl nn cn n0 c0 n1 c1 n2 c2 y mo ba fe re ta ad cu oc ic la lo ce), .seg J] := by show _ = _; kernel_rfl
theorem tree67t0 (y mo ba fe re ta ad cu oc ic la lo ce : Int) (al an a0 a1 a2 : Option Addr) (nl cl nn cn n0 c0 n1 c1 n2 c2 : Nat) (as_ av aw : Option Addr) (ns cs nv cv nw cw : Nat) (i x0 x1 x2 : Int) (b1 o1 : Nat) (H J J2 X : Heap) : (fun (Z0 : It) => (fun (Z1 : SFr) => (fun (Z2 : SH) => (fun (Z3 : SH) => (fun (Z4 : Value) => pieceS [] (gE 0) (cE 0) 100 (fun i => exL i body67_0 || (exL i r67_2 || resLv il67.res i)) body67_0 (.sym (.pur 22000056 (.pointer (some ⟨b1, o1, none⟩)) (.bas 7000057 Z4 (.use 30000064 (rS aw nw cw) ⟨[(2, .seg J2)], [.seg X]⟩ .nil))) .nil) Z1 [.seg H, Z0, .seg J] =
(.br (decide (i < (ns : Int)))
 (.claim (opA (Plain.env [] (gE 0)) (.iadr 2 none (.const (.slice as_ ns cs)) (kI i)) [] [] = some ((.pointer (some ⟨b1, o1, none⟩)), []))
 (.claim (opA (Plain.env [] (gE 0)) (.load (.const (.pointer (some ⟨b1, o1, none⟩))) (some 2)) [] H = some (Z4, H))
 (.claim (List.length J2 = List.length J) (.claim (opA (Plain.env [] (gE 0)) (.append 1 8 (.const (.slice av nv cv)) (.const (denV (ofs Z3) (.sl 4 0 2 2)))) [] (denH Z3) = some ((.slice aw nw cw), denH Z2))
 (.ret .normal (frS 116 [(1, (.ptr 1 0)), (2, nS), (4, (rS aw nw cw)), (52, (rS as_ ns cs)), (53, (sI (ns : Int))), (54, (sI (IntKind.wrap .i64 (i + 1))))]) Z2)))))
 (.ret (.exit 0) Z1 [.seg H, Z0, .seg J]))) (.agg ⟨[(.int .i64 x0), (.int .i64 x1)]⟩)) [.seg H, Z0, .seg J, .blk .fix [(sI x0), (sI x1)], .blk .fix [(sI x0), (sI x1)]]) [.seg H, Z0, .seg J2, .blk .fix [(sI x0), (sI x1)], .blk .fix [(sI x0), (sI x1)], .seg X]) (frS 116 [(1, (.ptr 1 0)), (2, nS), (4, (rS av nv cv)), (52, (rS as_ ns cs)), (53, (sI (ns : Int))), (54, (sI i))])) (dX al an a0 a1 a2 nl cl nn cn n0 c0 n1 c1 n2 c2 y mo ba fe re ta ad cu oc ic la lo ce) := by show _ = _; kernel_rfl
theorem tree67t2 (y mo ba fe re ta ad cu oc ic la lo ce : Int) (al an a0 a1 a2 : Option Addr) (nl cl nn cn n0 c0 n1 c1 n2 c2 : Nat) (as_ av aw : Option Addr) (ns cs nv cv nw cw : Nat) (i x0 x1 x2 : Int) (b1 o1 : Nat) (H J J2 X : Heap) : (fun (Z0 : It) => (fun (Z1 : SFr) => (fun (Z2 : SH) => (fun (Z3 : SH) => (fun (Z4 : Value) => pieceS [] (gE 0) (cE 0) 100 (fun i => exL i body67_2 || (exL i r67_4 || resLv il67.res i)) body67_2 (.sym (.pur 22000077 (.pointer (some ⟨b1, o1, none⟩)) (.bas 7000078 Z4 (.use 30000087 (rS aw nw cw) ⟨[(2, .seg J2)], [.seg X]⟩ .nil))) .nil) Z1 [.seg H, Z0, .seg J] =
(.br (decide (i < (ns : Int)))
 (.claim (opA (Plain.env [] (gE 0)) (.iadr 3 none (.const (.slice as_ ns cs)) (kI i)) [] [] = some ((.pointer (some ⟨b1, o1, none⟩)), []))
 (.claim (opA (Plain.env [] (gE 0)) (.load (.const (.pointer (some ⟨b1, o1, none⟩))) (some 3)) [] H = some (Z4, H))
 (.claim (List.length J2 = List.length J) (.claim (opA (Plain.env [] (gE 0)) (.append 1 8 (.const (.slice av nv cv)) (.const (denV (ofs Z3) (.sl 4 0 3 3)))) [] (denH Z3) = some ((.slice aw nw cw), denH Z2))
 (.ret .normal (frS 116 [(1, (.ptr 1 0)), (2, nS), (4, (rS aw nw cw)), (73, (rS as_ ns cs)), (74, (sI (ns : Int))), (75, (sI (IntKind.wrap .i64 (i + 1))))]) Z2)))))
 (.ret (.exit 2) Z1 [.seg H, Z0, .seg J]))) (.agg ⟨[(.int .i64 x0), (.int .i64 x1), (.int .i64 x2)]⟩)) [.seg H, Z0, .seg J, .blk .fix [(sI x0), (sI x1), (sI x2)], .blk .fix [(sI x0), (sI x1), (sI x2)]]) [.seg H, Z0, .seg J2, .blk .fix [(sI x0), (sI x1), (sI x2)], .blk .fix [(sI x0), (sI x1), (sI x2)], .seg X]) (frS 116 [(1, (.ptr 1 0)), (2, nS), (4, (rS av nv cv)), (73, (rS as_ ns cs)), (74, (sI (ns : Int))), (75, (sI i))])) (dX al an a0 a1 a2 nl cl nn cn n0 c0 n1 c1 n2 c2 y mo ba fe re ta ad cu oc ic la lo ce) := by show _ = _; kernel_rfl
theorem tree67t6 (a0 a1 a2 : Option Addr) (n0 c0 n1 c1 n2 c2 : Nat) (m : Int) (as_ av aw : Option Addr) (ns cs nv cv nw cw : Nat) (i x0 x1 x2 : Int) (b1 o1 : Nat) (H J J2 X : Heap) : (fun (Z2 : SV) => (fun (Z0 : SFr) => (fun (Z1 : SH) => (fun (Z3 : SH) => (fun (Z4 : Value) => pieceS [] (gE 0) (cE 0) 100 (fun i => exL i body67_6 || inL [2, 4, 90, 91] i) body67_6 (.sym (.pur 22000103 (.pointer (some ⟨b1, o1, none⟩)) (.bas 7000104 Z4 (.use 30000111 (rS aw nw cw) ⟨[(1, .seg J2)], [.seg X]⟩ .nil))) .nil) Z0 [.seg H, .seg J] =
(.br (decide (i < (ns : Int)))
 (.claim (opA (Plain.env [] (gE 0)) (.iadr 2 none (.const (.slice as_ ns cs)) (kI i)) [] [] = some ((.pointer (some ⟨b1, o1, none⟩)), []))
 (.claim (opA (Plain.env [] (gE 0)) (.load (.const (.pointer (some ⟨b1, o1, none⟩))) (some 2)) [] H = some (Z4, H))
 (.claim (List.length J2 = List.length J) (.claim (opA (Plain.env [] (gE 0)) (.append 1 8 (.const (.slice av nv cv)) (.const (denV (ofs Z3) (.sl 3 0 2 2)))) [] (denH Z3) = some ((.slice aw nw cw), denH Z1))
 (.ret .normal (frS 116 [(2, nS), (4, (rS aw nw cw)), (90, Z2), (91, (sI m)), (99, (rS as_ ns cs)), (100, (sI (ns : Int))), (101, (sI (IntKind.wrap .i64 (i + 1))))]) Z1)))))
 (.ret (.exit 6) Z0 [.seg H, .seg J]))) (.agg ⟨[(.int .i64 x0), (.int .i64 x1)]⟩)) [.seg H, .seg J, .blk .fix [(sI x0), (sI x1)], .blk .fix [(sI x0), (sI x1)]]) [.seg H, .seg J2, .blk .fix [(sI x0), (sI x1)], .blk .fix [(sI x0), (sI x1)], .seg X]) (frS 116 [(2, nS), (4, (rS av nv cv)), (90, Z2), (91, (sI m)), (99, (rS as_ ns cs)), (100, (sI (ns : Int))), (101, (sI i))])) (.raw (.agg ⟨[(.slice a0 n0 c0), (.slice a1 n1 c1), (.slice a2 n2 c2)]⟩)) := by show _ = _; kernel_rfl
theorem tree67t4 (a0 a1 a2 : Option Addr) (n0 c0 n1 c1 n2 c2 : Nat) (as_ av aw au : Option Addr) (ns cs nv cv nw cw nu cu_ : Nat) (m : Int) (bx : Option Blk) (H J J2 X Ja Xa Y : Heap) : (fun (Z0 : Value) => (fun (Z1 : SH) => (fun (Z2 : SH) => (fun (Z3 : SFr) => (fun (Z4 : SFr) => (fun (Z5 : SH) => pieceS [] (gE 0) (cE 0) 100 (fun i => exL i body67_4 || (exL i r67_5 || resLv il67.res i)) body67_4 (.sym (.pur 23000093 (.slice as_ ns cs) (.use 30000098 (rS aw nw cw) ⟨[(1, .seg J2)], [.seg X]⟩ (.lp 6 [2, 4, 90, 91] Z3 ⟨[(1, .seg Ja), (2, .raw bx), (3, .seg Xa)], [.seg Y]⟩ .nil))) .nil) Z4 [.seg H, .seg J] =
(.br (decide (m < 3))
 (.claim (opA (Plain.env [] (gE 0)) (.idx 1 3 none (.const Z0) (kI m)) [] [] = some ((.slice as_ ns cs), []))
 (.claim (List.length J2 = List.length J) (.claim (opA (Plain.env [] (gE 0)) (.append 1 8 (.const (.slice av nv cv)) (.const (denV (ofs Z5) (.sl 2 0 1 1)))) [] (denH Z5) = some ((.slice aw nw cw), denH Z1))
 (.claim (List.length Ja = List.length J2) (.claim (List.length Xa = List.length X) (.claim (Wp (Plain.env [] (gE 0)) (inL [2, 4, 90, 91]) (.block 6 (.loop body67_6)) (denF Z1 (frS 116 [(2, nS), (4, (rS aw nw cw)), (90, (.raw Z0)), (91, (sI m)), (99, (rS as_ ns cs)), (100, (sI (ns : Int))), (101, (sI 0))])) (denH Z1) fun e_ s_ h_ => e_ = .normal ∧ s_ = denF Z2 Z3 ∧ h_ = denH Z2)
 (.ret .normal (frS 116 [(2, nS), (4, (rS au nu cu_)), (90, (.raw Z0)), (91, (sI (IntKind.wrap .i64 (m + 1))))]) Z2)))))))
 (.ret (.exit 4) Z4 [.seg H, .seg J]))) [.seg H, .seg J, .blk .fix [(sI (ns : Int))]]) (frS 116 [(2, nS), (4, (rS av nv cv)), (90, (.raw Z0)), (91, (sI m))])) (frS 116 [(2, nS), (4, (rS au nu cu_)), (90, (.raw Z0)), (91, (sI m))])) [.seg H, .seg Ja, .raw bx, .seg Xa, .seg Y]) [.seg H, .seg J2, .blk .fix [(sI (ns : Int))], .seg X]) (.agg ⟨[(.slice a0 n0 c0), (.slice a1 n1 c1), (.slice a2 n2 c2)]⟩) := by show _ = _; kernel_rfl
theorem tree67z (av aw : Option Addr) (nv cv nw cw : Nat) (H J X : Heap) : pieceS [] (gE 0) (cE 0) 200 (resLv il67.res) r67_5 (.use 26000115 (rS aw nw cw) ⟨[], [.seg X]⟩ .nil) (frS 116 [(2, nS), (4, (rS av nv cv))]) [.seg H, .seg J] =
(.claim (opA (Plain.env [] (gE 0)) (.call 23 [(.const (.slice av nv cv))]) [] (denH [.seg H, .seg J]) = some ((.slice aw nw cw), denH [.seg H, .seg J, .seg X]))
 (.ret .ret (frS 116 [(2, (rS aw nw cw))]) [.seg H, .seg J, .seg X])) := by kernel_rfl
theorem lp67_0 {H J0 : Heap} {y mo ba fe re ta ad cu oc ic la lo ce : Int} {al an a0 a1 a2 : Option Addr} {nl cl nn cn n0 c0 n1 c1 n2 c2 : Nat} {as_ av : Option Addr} {cs nv cv : Nat} {l : List R2} {rs : List Int} (hs : RowsW 2 H (.slice as_ l.length cs) (l.map e2)) (hL : LsL 1 (denH [.seg H, dX al an a0 a1 a2 nl cl nn cn n0 c0 n1 c1 n2 c2 y mo ba fe re ta ad cu oc ic la lo ce]) J0 (.slice av nv cv) (rs.map ir)) (hb : rs.length + 2 * l.length ≤ 1000000) :
  ∃ (J : Heap) (aw : Option Addr) (nw cw : Nat), J0.length ≤ J.length ∧ LsL 1 (denH [.seg H, dX al an a0 a1 a2 nl cl nn cn n0 c0 n1 c1 n2 c2 y mo ba fe re ta ad cu oc ic la lo ce]) J (.slice aw nw cw) ((rs ++ flat2 l).map ir) ∧ Wp (Plain.env [] (gE 0)) (fun i => (exL i r67_2 || resLv il67.res i)) (.block 0 (.loop body67_0)) (denF [.seg H, dX al an a0 a1 a2 nl cl nn cn n0 c0 n1 c1 n2 c2 y mo ba fe re ta ad cu oc ic la lo ce, .seg J0] (frS 116 [(1, (.ptr 1 0)), (2, nS), (4, (rS av nv cv)), (52, (rS as_ l.length cs)), (53, (sI (l.length : Int))), (54, (sI 0))])) (denH [.seg H, dX al an a0 a1 a2 nl cl nn cn n0 c0 n1 c1 n2 c2 y mo ba fe re ta ad cu oc ic la lo ce, .seg J0]) fun e s h => (e = .normal ∧ s = denF [.seg H, dX al an a0 a1 a2 nl cl nn cn n0 c0 n1 c1 n2 c2 y mo ba fe re ta ad cu oc ic la lo ce, .seg J] (frS 116 [(1, (.ptr 1 0)), (2, nS), (4, (rS aw nw cw))]) ∧ h = denH [.seg H, dX al an a0 a1 a2 nl cl nn cn n0 c0 n1 c1 n2 c2 y mo ba fe re ta ad cu oc ic la lo ce, .seg J]) := by
 have key : Wp (Plain.env [] (gE 0)) (fun i => (exL i r67_2 || resLv il67.res i)) (.block 0 (.loop body67_0)) (denF [.seg H, dX al an a0 a1 a2 nl cl nn cn n0 c0 n1 c1 n2 c2 y mo ba fe re ta ad cu oc ic la lo ce, .seg J0] (frS 116 [(1, (.ptr 1 0)), (2, nS), (4, (rS av nv cv)), (52, (rS as_ l.length cs)), (53, (sI (l.length : Int))), (54, (sI 0))])) (denH [.seg H, dX al an a0 a1 a2 nl cl nn cn n0 c0 n1 c1 n2 c2 y mo ba fe re ta ad cu oc ic la lo ce, .seg J0]) fun e s h => ∃ (J : Heap) (aw : Option Addr) (nw cw : Nat), (e = .normal ∧ s = denF [.seg H, dX al an a0 a1 a2 nl cl nn cn n0 c0 n1 c1 n2 c2 y mo ba fe re ta ad cu oc ic la lo ce, .seg J] (frS 116 [(1, (.ptr 1 0)), (2, nS), (4, (rS aw nw cw))]) ∧ h = denH [.seg H, dX al an a0 a1 a2 nl cl nn cn n0 c0 n1 c1 n2 c2 y mo ba fe re ta ad cu oc ic la lo ce, .seg J]) ∧ J0.length ≤ J.length ∧ LsL 1 (denH [.seg H, dX al an a0 a1 a2 nl cl nn cn n0 c0 n1 c1 n2 c2 y mo ba fe re ta ad cu oc ic la lo ce]) J (.slice aw nw cw) ((rs ++ flat2 l).map ir) := by
  refine Wp.bl (fun k t h => ∃ (i : Nat) (J : Heap) (aw : Option Addr) (nw cw : Nat), i + k = l.length ∧ t = denF [.seg H, dX al an a0 a1 a2 nl cl nn cn n0 c0 n1 c1 n2 c2 y mo ba fe re ta ad cu oc ic la lo ce, .seg J] (frS 116 [(1, (.ptr 1 0)), (2, nS), (4, (rS aw nw cw)), (52, (rS as_ l.length cs)), (53, (sI (l.length : Int))), (54, (sI i))]) ∧ h = denH [.seg H, dX al an a0 a1 a2 nl cl nn cn n0 c0 n1 c1 n2 c2 y mo ba fe re ta ad cu oc ic la lo ce, .seg J] ∧ J0.length ≤ J.length ∧ LsL 1 (denH [.seg H, dX al an a0 a1 a2 nl cl nn cn n0 c0 n1 c1 n2 c2 y mo ba fe re ta ad cu oc ic la lo ce]) J (.slice aw nw cw) ((rs ++ flat2 (l.take i)).map ir)) ?_ l.length _ _
   ⟨0, J0, av, nv, cv, by omega, by show denF _ _ = denF _ _; kernel_rfl, rfl, Nat.le_refl _, by simpa [flat2] using hL⟩
  rintro k t h ⟨i, J, aw, nw, cw, hi, rfl, rfl, hJ, hl⟩
  by_cases hlt : i < l.length
  ·obtain ⟨⟨xa, xb⟩, hx⟩ := getE hlt
   obtain ⟨b1, o1, r1⟩ := hs.rowM hx
   have hlen : ((rs ++ flat2 (l.take i)).map ir).length = rs.length + 2 * i := by rw [List.length_map, List.length_append, flat2_len, List.length_take, Nat.min_eq_left (by omega)]
   obtain ⟨a3, c3, J2, X, q1, q2, q3⟩ := appLit (I := [.seg H, dX al an a0 a1 a2 nl cl nn cn n0 c0 n1 c1 n2 c2 y mo ba fe re ta ad cu oc ic la lo ce]) (R := [.blk .fix [sI xa, sI xb]]) (R0 := [some ⟨.fix, e2 ⟨xa, xb⟩⟩]) (w := 1) (eby := 8) (n := 2) (new := [ir xa, ir xb]) (cs := [sI xa, sI xb]) (J := J) (l := .slice aw nw cw) (rows := (rs ++ flat2 (l.take i)).map ir) rfl (fun _ => rfl) hl (fun _ => rfl) (by simp [ir]) rfl (by simp) (by decide) (by omega) (by omega)
   refine Wp.tree (cE_ok 0) (tree67t0 y mo ba fe re ta ad cu oc ic la lo ce al an a0 a1 a2 nl cl nn cn n0 c0 n1 c1 n2 c2 as_ aw a3 l.length cs nw cw (((rs ++ flat2 (l.take i)).map ir).length + 2) c3 i xa xb 0 b1 o1 H J J2 X) ⟨rfl, rfl⟩ ⟨fun _ => ⟨r1.ptr _ _, r1.all _, q1, q2 (Plain.env [] (gE 0)), end_next (k - 1) (by omega) ⟨i + 1, J2 ++ (some ⟨.fix, e2 ⟨xa, xb⟩⟩ :: some ⟨.fix, [ir xa, ir xb].flatten⟩ :: X), a3, ((rs ++ flat2 (l.take i)).map ir).length + 2, c3, by omega, ?_, by simp [denH, denL, It.den, den0, e2, ir], by simp; omega, ?_⟩⟩, fun q => by simp at q; omega⟩
   ·rw [wrap64 (x := (i : Int) + 1) (by omega) (by omega)]; show denF _ _ = denF _ _; kernel_rfl
   ·have e5 : (rs ++ (flat2 (l.take i) ++ [xa, xb])).map ir = (rs ++ flat2 (l.take i)).map ir ++ [ir xa, ir xb] := by rw [← List.append_assoc]; exact List.map_append
    rw [WB.take_one hx, flat2_snoc, e5]
    exact .inl q3
  ·have hil : i = l.length := by omega
   refine Wp.tree (cE_ok 0) (tree67t0 y mo ba fe re ta ad cu oc ic la lo ce al an a0 a1 a2 nl cl nn cn n0 c0 n1 c1 n2 c2 as_ aw aw l.length cs nw cw 0 0 i 0 0 0 0 0 H J J J) ⟨rfl, rfl⟩ ⟨fun q => by simp at q; omega, fun _ => end_exit ⟨J, aw, nw, cw, ⟨rfl, by show denF _ _ = denF _ _; kernel_rfl, rfl⟩, hJ, ?_⟩⟩
   rw [hil, List.take_length] at hl
   exact hl
 obtain ⟨e, t1, h1, ⟨J, aw, nw, cw, ⟨rfl, rfl, rfl⟩, hJ, hl⟩, w⟩ := key.exact
 exact ⟨J, aw, nw, cw, hJ, hl, w⟩
theorem lp67_2 {H J0 : Heap} {y mo ba fe re ta ad cu oc ic la lo ce : Int} {al an a0 a1 a2 : Option Addr} {nl cl nn cn n0 c0 n1 c1 n2 c2 : Nat} {as_ av : Option Addr} {cs nv cv : Nat} {l : List R3} {rs : List Int} (hs : RowsW 3 H (.slice as_ l.length cs) (l.map e3)) (hL : LsL 1 (denH [.seg H, dX al an a0 a1 a2 nl cl nn cn n0 c0 n1 c1 n2 c2 y mo ba fe re ta ad cu oc ic la lo ce]) J0 (.slice av nv cv) (rs.map ir)) (hb : rs.length + 3 * l.length ≤ 1000000) :
  ∃ (J : Heap) (aw : Option Addr) (nw cw : Nat), J0.length ≤ J.length ∧ LsL 1 (denH [.seg H, dX al an a0 a1 a2 nl cl nn cn n0 c0 n1 c1 n2 c2 y mo ba fe re ta ad cu oc ic la lo ce]) J (.slice aw nw cw) ((rs ++ flat3 l).map ir) ∧ Wp (Plain.env [] (gE 0)) (fun i => (exL i r67_4 || resLv il67.res i)) (.block 2 (.loop body67_2)) (denF [.seg H, dX al an a0 a1 a2 nl cl nn cn n0 c0 n1 c1 n2 c2 y mo ba fe re ta ad cu oc ic la lo ce, .seg J0] (frS 116 [(1, (.ptr 1 0)), (2, nS), (4, (rS av nv cv)), (73, (rS as_ l.length cs)), (74, (sI (l.length : Int))), (75, (sI 0))])) (denH [.seg H, dX al an a0 a1 a2 nl cl nn cn n0 c0 n1 c1 n2 c2 y mo ba fe re ta ad cu oc ic la lo ce, .seg J0]) fun e s h => (e = .normal ∧ s = denF [.seg H, dX al an a0 a1 a2 nl cl nn cn n0 c0 n1 c1 n2 c2 y mo ba fe re ta ad cu oc ic la lo ce, .seg J] (frS 116 [(1, (.ptr 1 0)), (2, nS), (4, (rS aw nw cw))]) ∧ h = denH [.seg H, dX al an a0 a1 a2 nl cl nn cn n0 c0 n1 c1 n2 c2 y mo ba fe re ta ad cu oc ic la lo ce, .seg J]) := by
 have key : Wp (Plain.env [] (gE 0)) (fun i => (exL i r67_4 || resLv il67.res i)) (.block 2 (.loop body67_2)) (denF [.seg H, dX al an a0 a1 a2 nl cl nn cn n0 c0 n1 c1 n2 c2 y mo ba fe re ta ad cu oc ic la lo ce, .seg J0] (frS 116 [(1, (.ptr 1 0)), (2, nS), (4, (rS av nv cv)), (73, (rS as_ l.length cs)), (74, (sI (l.length : Int))), (75, (sI 0))])) (denH [.seg H, dX al an a0 a1 a2 nl cl nn cn n0 c0 n1 c1 n2 c2 y mo ba fe re ta ad cu oc ic la lo ce, .seg J0]) fun e s h => ∃ (J : Heap) (aw : Option Addr) (nw cw : Nat), (e = .normal ∧ s = denF [.seg H, dX al an a0 a1 a2 nl cl nn cn n0 c0 n1 c1 n2 c2 y mo ba fe re ta ad cu oc ic la lo ce, .seg J] (frS 116 [(1, (.ptr 1 0)), (2, nS), (4, (rS aw nw cw))]) ∧ h = denH [.seg H, dX al an a0 a1 a2 nl cl nn cn n0 c0 n1 c1 n2 c2 y mo ba fe re ta ad cu oc ic la lo ce, .seg J]) ∧ J0.length ≤ J.length ∧ LsL 1 (denH [.seg H, dX al an a0 a1 a2 nl cl nn cn n0 c0 n1 c1 n2 c2 y mo ba fe re ta ad cu oc ic la lo ce]) J (.slice aw nw cw) ((rs ++ flat3 l).map ir) := by
  refine Wp.bl (fun k t h => ∃ (i : Nat) (J : Heap) (aw : Option Addr) (nw cw : Nat), i + k = l.length ∧ t = denF [.seg H, dX al an a0 a1 a2 nl cl nn cn n0 c0 n1 c1 n2 c2 y mo ba fe re ta ad cu oc ic la lo ce, .seg J] (frS 116 [(1, (.ptr 1 0)), (2, nS), (4, (rS aw nw cw)), (73, (rS as_ l.length cs)), (74, (sI (l.length : Int))), (75, (sI i))]) ∧ h = denH [.seg H, dX al an a0 a1 a2 nl cl nn cn n0 c0 n1 c1 n2 c2 y mo ba fe re ta ad cu oc ic la lo ce, .seg J] ∧ J0.length ≤ J.length ∧ LsL 1 (denH [.seg H, dX al an a0 a1 a2 nl cl nn cn n0 c0 n1 c1 n2 c2 y mo ba fe re ta ad cu oc ic la lo ce]) J (.slice aw nw cw) ((rs ++ flat3 (l.take i)).map ir)) ?_ l.length _ _
   ⟨0, J0, av, nv, cv, by omega, by show denF _ _ = denF _ _; kernel_rfl, rfl, Nat.le_refl _, by simpa [flat3] using hL⟩
  rintro k t h ⟨i, J, aw, nw, cw, hi, rfl, rfl, hJ, hl⟩
  by_cases hlt : i < l.length
  ·obtain ⟨⟨xa, xb, xc⟩, hx⟩ := getE hlt
   obtain ⟨b1, o1, r1⟩ := hs.rowM hx
   have hlen : ((rs ++ flat3 (l.take i)).map ir).length = rs.length + 3 * i := by rw [List.length_map, List.length_append, flat3_len, List.length_take, Nat.min_eq_left (by omega)]
   obtain ⟨a3, c3, J2, X, q1, q2, q3⟩ := appLit (I := [.seg H, dX al an a0 a1 a2 nl cl nn cn n0 c0 n1 c1 n2 c2 y mo ba fe re ta ad cu oc ic la lo ce]) (R := [.blk .fix [sI xa, sI xb, sI xc]]) (R0 := [some ⟨.fix, e3 ⟨xa, xb, xc⟩⟩]) (w := 1) (eby := 8) (n := 3) (new := [ir xa, ir xb, ir xc]) (cs := [sI xa, sI xb, sI xc]) (J := J) (l := .slice aw nw cw) (rows := (rs ++ flat3 (l.take i)).map ir) rfl (fun _ => rfl) hl (fun _ => rfl) (by simp [ir]) rfl (by simp) (by decide) (by omega) (by omega)
   refine Wp.tree (cE_ok 0) (tree67t2 y mo ba fe re ta ad cu oc ic la lo ce al an a0 a1 a2 nl cl nn cn n0 c0 n1 c1 n2 c2 as_ aw a3 l.length cs nw cw (((rs ++ flat3 (l.take i)).map ir).length + 3) c3 i xa xb xc b1 o1 H J J2 X) ⟨rfl, rfl⟩ ⟨fun _ => ⟨r1.ptr _ _, r1.all _, q1, q2 (Plain.env [] (gE 0)), end_next (k - 1) (by omega) ⟨i + 1, J2 ++ (some ⟨.fix, e3 ⟨xa, xb, xc⟩⟩ :: some ⟨.fix, [ir xa, ir xb, ir xc].flatten⟩ :: X), a3, ((rs ++ flat3 (l.take i)).map ir).length + 3, c3, by omega, ?_, by simp [denH, denL, It.den, den0, e3, ir], by simp; omega, ?_⟩⟩, fun q => by simp at q; omega⟩
   ·rw [wrap64 (x := (i : Int) + 1) (by omega) (by omega)]; show denF _ _ = denF _ _; kernel_rfl
   ·have e5 : (rs ++ (flat3 (l.take i) ++ [xa, xb, xc])).map ir = (rs ++ flat3 (l.take i)).map ir ++ [ir xa, ir xb, ir xc] := by rw [← List.append_assoc]; exact List.map_append
    rw [WB.take_one hx, flat3_snoc, e5]
    exact .inl q3
  ·have hil : i = l.length := by omega
   refine Wp.tree (cE_ok 0) (tree67t2 y mo ba fe re ta ad cu oc ic la lo ce al an a0 a1 a2 nl cl nn cn n0 c0 n1 c1 n2 c2 as_ aw aw l.length cs nw cw 0 0 i 0 0 0 0 0 H J J J) ⟨rfl, rfl⟩ ⟨fun q => by simp at q; omega, fun _ => end_exit ⟨J, aw, nw, cw, ⟨rfl, by show denF _ _ = denF _ _; kernel_rfl, rfl⟩, hJ, ?_⟩⟩
   rw [hil, List.take_length] at hl
   exact hl
 obtain ⟨e, t1, h1, ⟨J, aw, nw, cw, ⟨rfl, rfl, rfl⟩, hJ, hl⟩, w⟩ := key.exact
 exact ⟨J, aw, nw, cw, hJ, hl, w⟩
theorem lp67_6 {H J0 : Heap} {a0 a1 a2 : Option Addr} {n0 c0 n1 c1 n2 c2 : Nat} {m : Int} {as_ av : Option Addr} {cs nv cv : Nat} {l : List R2} {rs : List Int} (hs : RowsW 2 H (.slice as_ l.length cs) (l.map e2)) (hL : LsL 1 H J0 (.slice av nv cv) (rs.map ir)) (hb : rs.length + 2 * l.length ≤ 1000000) :
  ∃ (J : Heap) (aw : Option Addr) (nw cw : Nat), J0.length ≤ J.length ∧ LsL 1 H J (.slice aw nw cw) ((rs ++ flat2 l).map ir) ∧ Wp (Plain.env [] (gE 0)) (fun i => inL [2, 4, 90, 91] i) (.block 6 (.loop body67_6)) (denF [.seg H, .seg J0] (frS 116 [(2, nS), (4, (rS av nv cv)), (90, (.raw (.agg ⟨[(.slice a0 n0 c0), (.slice a1 n1 c1), (.slice a2 n2 c2)]⟩))), (91, (sI m)), (99, (rS as_ l.length cs)), (100, (sI (l.length : Int))), (101, (sI 0))])) (denH [.seg H, .seg J0]) fun e s h => (e = .normal ∧ s = denF [.seg H, .seg J] (frS 116 [(2, nS), (4, (rS aw nw cw)), (90, (.raw (.agg ⟨[(.slice a0 n0 c0), (.slice a1 n1 c1), (.slice a2 n2 c2)]⟩))), (91, (sI m))]) ∧ h = denH [.seg H, .seg J]) := by
 have key : Wp (Plain.env [] (gE 0)) (fun i => inL [2, 4, 90, 91] i) (.block 6 (.loop body67_6)) (denF [.seg H, .seg J0] (frS 116 [(2, nS), (4, (rS av nv cv)), (90, (.raw (.agg ⟨[(.slice a0 n0 c0), (.slice a1 n1 c1), (.slice a2 n2 c2)]⟩))), (91, (sI m)), (99, (rS as_ l.length cs)), (100, (sI (l.length : Int))), (101, (sI 0))])) (denH [.seg H, .seg J0]) fun e s h => ∃ (J : Heap) (aw : Option Addr) (nw cw : Nat), (e = .normal ∧ s = denF [.seg H, .seg J] (frS 116 [(2, nS), (4, (rS aw nw cw)), (90, (.raw (.agg ⟨[(.slice a0 n0 c0), (.slice a1 n1 c1), (.slice a2 n2 c2)]⟩))), (91, (sI m))]) ∧ h = denH [.seg H, .seg J]) ∧ J0.length ≤ J.length ∧ LsL 1 H J (.slice aw nw cw) ((rs ++ flat2 l).map ir) := by
  refine Wp.bl (fun k t h => ∃ (i : Nat) (J : Heap) (aw : Option Addr) (nw cw : Nat), i + k = l.length ∧ t = denF [.seg H, .seg J] (frS 116 [(2, nS), (4, (rS aw nw cw)), (90, (.raw (.agg ⟨[(.slice a0 n0 c0), (.slice a1 n1 c1), (.slice a2 n2 c2)]⟩))), (91, (sI m)), (99, (rS as_ l.length cs)), (100, (sI (l.length : Int))), (101, (sI i))]) ∧ h = denH [.seg H, .seg J] ∧ J0.length ≤ J.length ∧ LsL 1 H J (.slice aw nw cw) ((rs ++ flat2 (l.take i)).map ir)) ?_ l.length _ _
   ⟨0, J0, av, nv, cv, by omega, by show denF _ _ = denF _ _; kernel_rfl, rfl, Nat.le_refl _, by simpa [flat2] using hL⟩
  rintro k t h ⟨i, J, aw, nw, cw, hi, rfl, rfl, hJ, hl⟩
  by_cases hlt : i < l.length
  ·obtain ⟨⟨xa, xb⟩, hx⟩ := getE hlt
   obtain ⟨b1, o1, r1⟩ := hs.rowM hx
   have hlen : ((rs ++ flat2 (l.take i)).map ir).length = rs.length + 2 * i := by rw [List.length_map, List.length_append, flat2_len, List.length_take, Nat.min_eq_left (by omega)]
   obtain ⟨a3, c3, J2, X, q1, q2, q3⟩ := appLit (I := [.seg H]) (R := [.blk .fix [sI xa, sI xb]]) (R0 := [some ⟨.fix, e2 ⟨xa, xb⟩⟩]) (w := 1) (eby := 8) (n := 2) (new := [ir xa, ir xb]) (cs := [sI xa, sI xb]) (J := J) (l := .slice aw nw cw) (rows := (rs ++ flat2 (l.take i)).map ir) rfl (fun _ => rfl) (by simpa [denH, denL, It.den] using hl) (fun _ => rfl) (by simp [ir]) rfl (by simp) (by decide) (by omega) (by omega)
   have e0 : denH [.seg H] = H := by simp [denH, denL, It.den]
   rw [e0] at q3
   refine Wp.tree (cE_ok 0) (tree67t6 a0 a1 a2 n0 c0 n1 c1 n2 c2 m as_ aw a3 l.length cs nw cw (((rs ++ flat2 (l.take i)).map ir).length + 2) c3 i xa xb 0 b1 o1 H J J2 X) ⟨rfl, rfl⟩ ⟨fun _ => ⟨r1.ptr _ _, r1.all _, q1, q2 (Plain.env [] (gE 0)), end_next (k - 1) (by omega) ⟨i + 1, J2 ++ (some ⟨.fix, e2 ⟨xa, xb⟩⟩ :: some ⟨.fix, [ir xa, ir xb].flatten⟩ :: X), a3, ((rs ++ flat2 (l.take i)).map ir).length + 2, c3, by omega, ?_, by simp [denH, denL, It.den, den0, e2, ir], by simp; omega, ?_⟩⟩, fun q => by simp at q; omega⟩
   ·rw [wrap64 (x := (i : Int) + 1) (by omega) (by omega)]; show denF _ _ = denF _ _; kernel_rfl
   ·have e5 : (rs ++ (flat2 (l.take i) ++ [xa, xb])).map ir = (rs ++ flat2 (l.take i)).map ir ++ [ir xa, ir xb] := by rw [← List.append_assoc]; exact List.map_append
    rw [WB.take_one hx, flat2_snoc, e5]
    exact .inl q3
  ·have hil : i = l.length := by omega
   refine Wp.tree (cE_ok 0) (tree67t6 a0 a1 a2 n0 c0 n1 c1 n2 c2 m as_ aw aw l.length cs nw cw 0 0 i 0 0 0 0 0 H J J J) ⟨rfl, rfl⟩ ⟨fun q => by simp at q; omega, fun _ => end_exit ⟨J, aw, nw, cw, ⟨rfl, by show denF _ _ = denF _ _; kernel_rfl, rfl⟩, hJ, ?_⟩⟩
   rw [hil, List.take_length] at hl
   exact hl
 obtain ⟨e, t1, h1, ⟨J, aw, nw, cw, ⟨rfl, rfl, rfl⟩, hJ, hl⟩, w⟩ := key.exact
 exact ⟨J, aw, nw, cw, hJ, hl, w⟩
theorem tn67 {H J : Heap} {a0 a1 a2 : Option Addr} {n0 c0 n1 c1 n2 c2 : Nat} {m : Nat} {as_ av : Option Addr} {cs nv cv : Nat} {s : List R2} {rs : List Int} (hm : m < 3) (hi : opA (Plain.env [] (gE 0)) (.idx 1 3 none (.const (.agg ⟨[(.slice a0 n0 c0), (.slice a1 n1 c1), (.slice a2 n2 c2)]⟩)) (kI m)) [] [] = some (.slice as_ s.length cs, [])) (hs : RowsW 2 H (.slice as_ s.length cs) (s.map e2)) (hL : LsL 1 H J (.slice av nv cv) (rs.map ir)) (hb : rs.length + 1 + 2 * s.length ≤ 1000000) :
  ∃ (J' : Heap) (aw : Option Addr) (nw cw : Nat), J.length ≤ J'.length ∧ LsL 1 H J' (.slice aw nw cw) ((rs ++ stepsI s).map ir) ∧
   Wp (Plain.env [] (gE 0)) (fun i => exL i body67_4 || (exL i r67_5 || resLv il67.res i)) body67_4 (denF [.seg H, .seg J] (frS 116 [(2, nS), (4, (rS av nv cv)), (90, (.raw (.agg ⟨[(.slice a0 n0 c0), (.slice a1 n1 c1), (.slice a2 n2 c2)]⟩))), (91, (sI (m : Int)))])) (denH [.seg H, .seg J]) fun e t h => e = .normal ∧ t = denF [.seg H, .seg J'] (frS 116 [(2, nS), (4, (rS aw nw cw)), (90, (.raw (.agg ⟨[(.slice a0 n0 c0), (.slice a1 n1 c1), (.slice a2 n2 c2)]⟩))), (91, (sI ((m + 1 : Nat) : Int)))]) ∧ h = denH [.seg H, .seg J'] := by
 have e0 : denH [.seg H] = H := by simp [denH, denL, It.den]
 obtain ⟨a3, c3, J2, X, q1, q2, q3⟩ := appLit (I := [.seg H]) (R := []) (R0 := []) (w := 1) (eby := 8) (n := 1) (new := [ir (s.length : Int)]) (cs := [sI (s.length : Int)]) (J := J) (l := .slice av nv cv) (rows := rs.map ir) rfl (fun _ => rfl) (by rw [e0]; exact hL) (fun _ => rfl) (by simp [ir]) rfl (by simp) (by decide) (by simp; omega) (by simp; omega)
 rw [e0, List.length_map] at q3
 have q4 : LsL 1 H (J2 ++ (some ⟨.fix, [.int .i64 (s.length : Int)]⟩ :: X)) (.slice a3 (rs.length + 1) c3) ((rs ++ [(s.length : Int)]).map ir) := by
  rw [List.map_append]; exact .inl q3
 obtain ⟨J', au, nu, cu, hJ, hl, w⟩ := lp67_6 (a0 := a0) (a1 := a1) (a2 := a2) (n0 := n0) (c0 := c0) (n1 := n1) (c1 := c1) (n2 := n2) (c2 := c2) (m := m) hs q4 (by simp; omega)
 obtain ⟨Ja, bx, Xa, Y, rfl, la, lx⟩ := cut3 (J := J') (a := J2.length) (c := X.length) (by simpa [Nat.add_comm, Nat.add_left_comm, Nat.add_assoc] using hJ)
 refine ⟨Ja ++ bx :: (Xa ++ Y), au, nu, cu, by simp; omega, by simpa [stepsI] using hl, ?_⟩
 refine Wp.tree (cE_ok 0) (tree67t4 a0 a1 a2 n0 c0 n1 c1 n2 c2 as_ av a3 au s.length cs nv cv (rs.length + 1) c3 nu cu m bx H J J2 X Ja Xa Y) ⟨rfl, rfl⟩ ⟨fun _ => ⟨hi, q1, by have := q2 (Plain.env [] (gE 0)); rw [List.length_map] at this; exact this, la, lx, ?_, ?_⟩, fun q => by simp at q; omega⟩
 ·have k1 : denH [.seg H, .seg (J2 ++ (some ⟨.fix, [.int .i64 (s.length : Int)]⟩ :: X))] = denH [.seg H, .seg J2, .blk .fix [sI (s.length : Int)], .seg X] := by simp [denH, denL, It.den, den0]
  have k2 : denH [.seg H, .seg (Ja ++ bx :: (Xa ++ Y))] = denH [.seg H, .seg Ja, .raw bx, .seg Xa, .seg Y] := by simp [denH, denL, It.den]
  rw [k1] at w
  exact w.mono fun e t h ⟨r1, r2, r3⟩ => ⟨r1, by rw [r2]; show denF _ _ = denF _ _; kernel_rfl, by rw [r3, k2]⟩
 ·refine ⟨rfl, ?_, by simp [denH, denL, It.den]⟩
  rw [wrap64 (x := (m : Int) + 1) (by omega) (by omega)]
  show denF _ _ = denF _ _
  kernel_rfl
theorem lp67_4 {H J0 : Heap} {a0 a1 a2 : Option Addr} {c0 c1 c2 : Nat} {av : Option Addr} {nv cv : Nat} {s0 s1 s2 : List R2} {rs : List Int} (h0 : RowsW 2 H (.slice a0 s0.length c0) (s0.map e2)) (h1 : RowsW 2 H (.slice a1 s1.length c1) (s1.map e2)) (h2 : RowsW 2 H (.slice a2 s2.length c2) (s2.map e2)) (hL : LsL 1 H J0 (.slice av nv cv) (rs.map ir)) (hb : rs.length + 3 + 2 * s0.length + 2 * s1.length + 2 * s2.length ≤ 1000000) :
  ∃ (J : Heap) (aw : Option Addr) (nw cw : Nat), LsL 1 H J (.slice aw nw cw) ((rs ++ stepsI s0 ++ stepsI s1 ++ stepsI s2).map ir) ∧
   Wp (Plain.env [] (gE 0)) (fun i => (exL i r67_5 || resLv il67.res i)) (.block 4 (.loop body67_4)) (denF [.seg H, .seg J0] (frS 116 [(2, nS), (4, (rS av nv cv)), (90, (.raw (.agg ⟨[(.slice a0 s0.length c0), (.slice a1 s1.length c1), (.slice a2 s2.length c2)]⟩))), (91, (sI 0))])) (denH [.seg H, .seg J0]) fun e s h => e = .normal ∧ s = denF [.seg H, .seg J] (frS 116 [(2, nS), (4, (rS aw nw cw))]) ∧ h = denH [.seg H, .seg J] := by
 have i0 : opA (Plain.env [] (gE 0)) (.idx 1 3 none (.const (.agg ⟨[(.slice a0 s0.length c0), (.slice a1 s1.length c1), (.slice a2 s2.length c2)]⟩)) (kI (0 : Nat))) [] [] = some (.slice a0 s0.length c0, []) := rfl
 have i1 : opA (Plain.env [] (gE 0)) (.idx 1 3 none (.const (.agg ⟨[(.slice a0 s0.length c0), (.slice a1 s1.length c1), (.slice a2 s2.length c2)]⟩)) (kI (1 : Nat))) [] [] = some (.slice a1 s1.length c1, []) := rfl
 have i2 : opA (Plain.env [] (gE 0)) (.idx 1 3 none (.const (.agg ⟨[(.slice a0 s0.length c0), (.slice a1 s1.length c1), (.slice a2 s2.length c2)]⟩)) (kI (2 : Nat))) [] [] = some (.slice a2 s2.length c2, []) := rfl
 have sl : ∀ s : List R2, (stepsI s).length = 1 + 2 * s.length := fun s => by simp [stepsI, flat2_len]; omega
 obtain ⟨J1, b1, m1, d1, _, l1, w1⟩ := tn67 (m := 0) (by decide) i0 h0 hL (by omega)
 obtain ⟨J2, b2, m2, d2, _, l2, w2⟩ := tn67 (m := 1) (by decide) i1 h1 l1 (by rw [List.length_append, sl]; omega)
 obtain ⟨J3, b3, m3, d3, _, l3, w3⟩ := tn67 (m := 2) (by decide) i2 h2 l2 (by rw [List.length_append, List.length_append, sl, sl]; omega)
 refine ⟨J3, b3, m3, d3, l3, ?_⟩
 refine Wp.bl (fun k t h => (k = 3 ∧ t = denF [.seg H, .seg J0] (frS 116 [(2, nS), (4, (rS av nv cv)), (90, (.raw (.agg ⟨[(.slice a0 s0.length c0), (.slice a1 s1.length c1), (.slice a2 s2.length c2)]⟩))), (91, (sI ((0 : Nat) : Int)))]) ∧ h = denH [.seg H, .seg J0]) ∨ (k = 2 ∧ t = denF [.seg H, .seg J1] (frS 116 [(2, nS), (4, (rS b1 m1 d1)), (90, (.raw (.agg ⟨[(.slice a0 s0.length c0), (.slice a1 s1.length c1), (.slice a2 s2.length c2)]⟩))), (91, (sI ((1 : Nat) : Int)))]) ∧ h = denH [.seg H, .seg J1]) ∨ (k = 1 ∧ t = denF [.seg H, .seg J2] (frS 116 [(2, nS), (4, (rS b2 m2 d2)), (90, (.raw (.agg ⟨[(.slice a0 s0.length c0), (.slice a1 s1.length c1), (.slice a2 s2.length c2)]⟩))), (91, (sI ((2 : Nat) : Int)))]) ∧ h = denH [.seg H, .seg J2]) ∨ (k = 0 ∧ t = denF [.seg H, .seg J3] (frS 116 [(2, nS), (4, (rS b3 m3 d3)), (90, (.raw (.agg ⟨[(.slice a0 s0.length c0), (.slice a1 s1.length c1), (.slice a2 s2.length c2)]⟩))), (91, (sI ((3 : Nat) : Int)))]) ∧ h = denH [.seg H, .seg J3])) ?_ 3 _ _ (.inl ⟨rfl, rfl, rfl⟩)
 rintro k t h (⟨rfl, rfl, rfl⟩ | ⟨rfl, rfl, rfl⟩ | ⟨rfl, rfl, rfl⟩ | ⟨rfl, rfl, rfl⟩)
 ·exact w1.mono fun e t h ⟨r1, r2, r3⟩ => by subst r1; exact ⟨2, by decide, .inr (.inl ⟨rfl, r2, r3⟩)⟩
 ·exact w2.mono fun e t h ⟨r1, r2, r3⟩ => by subst r1; exact ⟨1, by decide, .inr (.inr (.inl ⟨rfl, r2, r3⟩))⟩
 ·exact w3.mono fun e t h ⟨r1, r2, r3⟩ => by subst r1; exact ⟨0, by decide, .inr (.inr (.inr ⟨rfl, r2, r3⟩))⟩
 ·refine Wp.tree (cE_ok 0) (tree67t4 a0 a1 a2 s0.length c0 s1.length c1 s2.length c2 a0 b3 b3 b3 0 0 m3 d3 0 0 0 0 3 none H J3 J3 [] [] [] []) ⟨rfl, rfl⟩ ⟨fun q => by simp at q, fun _ => end_exit ⟨rfl, by show denF _ _ = denF _ _; kernel_rfl, rfl⟩⟩
theorem mid67 {H J0 : Heap} {y mo ba fe re ta ad cu oc ic la lo ce : Int} {al an a0 a1 a2 av : Option Addr} {cl cn c0 c1 c2 nv cv : Nat} {l : List R2} {n : List R3} {s0 s1 s2 : List R2} {rs : List Int} {K : Post2} (hl : RowsW 2 H (.slice al l.length cl) (l.map e2)) (hn : RowsW 3 H (.slice an n.length cn) (n.map e3)) (h0 : RowsW 2 H (.slice a0 s0.length c0) (s0.map e2)) (h1 : RowsW 2 H (.slice a1 s1.length c1) (s1.map e2)) (h2 : RowsW 2 H (.slice a2 s2.length c2) (s2.map e2)) (bl : l.length ≤ 1000) (bn : n.length ≤ 1000) (b0 : s0.length ≤ 1000) (b1 : s1.length ≤ 1000) (b2 : s2.length ≤ 1000) (br : rs.length ≤ 20)
  (hL : LsL 1 (denH [.seg H, dB y mo ba (rS al l.length cl) (rS an n.length cn) fe re ta ad cu oc ic la lo ce (rS a0 s0.length c0) (rS a1 s1.length c1) (rS a2 s2.length c2)]) J0 (.slice av nv cv) (rs.map ir))
  (fin : ∀ (J : Heap) (aw : Option Addr) (nw cw : Nat), LsL 1 (denH [.seg H, dB y mo ba (rS al l.length cl) (rS an n.length cn) fe re ta ad cu oc ic la lo ce (rS a0 s0.length c0) (rS a1 s1.length c1) (rS a2 s2.length c2)]) J (.slice aw nw cw) ((rs ++ flat2 l ++ [(n.length : Int)] ++ flat3 n ++ stepsI s0 ++ stepsI s1 ++ stepsI s2).map ir) → Wp (Plain.env [] (gE 0)) (resLv il67.res) r67_5 (denF [.seg (denH [.seg H, dB y mo ba (rS al l.length cl) (rS an n.length cn) fe re ta ad cu oc ic la lo ce (rS a0 s0.length c0) (rS a1 s1.length c1) (rS a2 s2.length c2)]), .seg J] (frS 116 [(2, nS), (4, (rS aw nw cw))])) (denH [.seg (denH [.seg H, dB y mo ba (rS al l.length cl) (rS an n.length cn) fe re ta ad cu oc ic la lo ce (rS a0 s0.length c0) (rS a1 s1.length c1) (rS a2 s2.length c2)]), .seg J]) K) :
  Wp (Plain.env [] (gE 0)) (resLv il67.res) r67_1 (denF [.seg H, dB y mo ba (rS al l.length cl) (rS an n.length cn) fe re ta ad cu oc ic la lo ce (rS a0 s0.length c0) (rS a1 s1.length c1) (rS a2 s2.length c2), .seg J0] (frS 116 [(1, (.ptr 1 0)), (2, nS), (4, (rS av nv cv))])) (denH [.seg H, dB y mo ba (rS al l.length cl) (rS an n.length cn) fe re ta ad cu oc ic la lo ce (rS a0 s0.length c0) (rS a1 s1.length c1) (rS a2 s2.length c2), .seg J0]) K := by
 have eb1 : cb67_1 = .block 0 (.loop body67_0) := by kernel_rfl
 have eb3 : cb67_3 = .block 2 (.loop body67_2) := by kernel_rfl
 have eb4 : cb67_4 = .block 4 (.loop body67_4) := by kernel_rfl
 obtain ⟨J1, u1, m1, d1, _, l1, w1⟩ := lp67_0 (y := y) (mo := mo) (ba := ba) (fe := fe) (re := re) (ta := ta) (ad := ad) (cu := cu) (oc := oc) (ic := ic) (la := la) (lo := lo) (ce := ce) hl hL (by omega)
 have f2 := flat2_len l
 have f3 := flat3_len n
 obtain ⟨u2, d2, J2, X2, q1, q2, q3⟩ := appLit (I := [.seg H, dB y mo ba (rS al l.length cl) (rS an n.length cn) fe re ta ad cu oc ic la lo ce (rS a0 s0.length c0) (rS a1 s1.length c1) (rS a2 s2.length c2)]) (R := []) (R0 := []) (w := 1) (eby := 8) (n := 1) (new := [ir (n.length : Int)]) (cs := [sI (n.length : Int)]) rfl (fun _ => rfl) l1 (fun _ => rfl) (by simp [ir]) rfl (by simp) (by decide) (by simp; omega) (by simp; omega)
 have l2 : LsL 1 (denH [.seg H, dB y mo ba (rS al l.length cl) (rS an n.length cn) fe re ta ad cu oc ic la lo ce (rS a0 s0.length c0) (rS a1 s1.length c1) (rS a2 s2.length c2)]) (J2 ++ ([] ++ (some ⟨.fix, [ir (n.length : Int)].flatten⟩ :: X2))) (.slice u2 (((rs ++ flat2 l).map ir).length + 1) d2) ((rs ++ flat2 l ++ [(n.length : Int)]).map ir) := by
  have e5 : (rs ++ flat2 l ++ [(n.length : Int)]).map ir = (rs ++ flat2 l).map ir ++ [ir (n.length : Int)] := List.map_append
  rw [e5]; exact .inl q3
 obtain ⟨J3, u3, m3, d3, _, l3, w3⟩ := lp67_2 (y := y) (mo := mo) (ba := ba) (fe := fe) (re := re) (ta := ta) (ad := ad) (cu := cu) (oc := oc) (ic := ic) (la := la) (lo := lo) (ce := ce) hn l2 (by simp; omega)
 obtain ⟨J4, u4, m4, d4, l4, w4⟩ := lp67_4 (D.up1 h0 [dB y mo ba (rS al l.length cl) (rS an n.length cn) fe re ta ad cu oc ic la lo ce (rS a0 s0.length c0) (rS a1 s1.length c1) (rS a2 s2.length c2)]) (D.up1 h1 [dB y mo ba (rS al l.length cl) (rS an n.length cn) fe re ta ad cu oc ic la lo ce (rS a0 s0.length c0) (rS a1 s1.length c1) (rS a2 s2.length c2)]) (D.up1 h2 [dB y mo ba (rS al l.length cl) (rS an n.length cn) fe re ta ad cu oc ic la lo ce (rS a0 s0.length c0) (rS a1 s1.length c1) (rS a2 s2.length c2)]) l3 (by simp; omega)
 refine Wp.split' (n := 0) (p := c67_1) (q := r67_2) (lv' := fun i => (exL i r67_2 || resLv il67.res i)) (by kernel_rfl) (fun i q => q) ?_
 refine Wp.split' (n := 0) (p := ca67_1) (q := cb67_1) (lv' := fun i => exL i cb67_1 || (exL i r67_2 || resLv il67.res i)) (by kernel_rfl) (fun i q => q) ?_
 refine Wp.tree (cE_ok 0) (tree67l y mo ba fe re ta ad cu oc ic la lo ce al an a0 a1 a2 l.length cl n.length cn s0.length c0 s1.length c1 s2.length c2 av none nv cv 0 0 H J0 [] []) ⟨rfl, rfl⟩ ?_
 show Wp (Plain.env [] (gE 0)) (fun i => (exL i r67_2 || resLv il67.res i)) cb67_1 _ _ _
 rw [eb1]
 refine w1.mono fun e s h ⟨r1, r2, r3⟩ => ?_
 subst r1 r2 r3
 show Wp (Plain.env [] (gE 0)) (resLv il67.res) r67_2 _ _ K
 refine Wp.split' (n := 0) (p := c67_2) (q := r67_3) (lv' := fun i => (exL i r67_3 || resLv il67.res i)) (by kernel_rfl) (fun i q => q) ?_
 refine Wp.tree (cE_ok 0) (tree67a y mo ba fe re ta ad cu oc ic la lo ce al an a0 a1 a2 l.length cl n.length cn s0.length c0 s1.length c1 s2.length c2 u1 u2 m1 d1 (((rs ++ flat2 l).map ir).length + 1) d2 H J1 J2 X2) ⟨rfl, rfl⟩ ⟨q1, q2 _, ?_⟩
 show Wp (Plain.env [] (gE 0)) (resLv il67.res) r67_3 _ _ K
 rw [show denH [.seg H, dB y mo ba (rS al l.length cl) (rS an n.length cn) fe re ta ad cu oc ic la lo ce (rS a0 s0.length c0) (rS a1 s1.length c1) (rS a2 s2.length c2), .seg J2, .blk .fix [(sI (n.length : Int))], .seg X2] = denH [.seg H, dB y mo ba (rS al l.length cl) (rS an n.length cn) fe re ta ad cu oc ic la lo ce (rS a0 s0.length c0) (rS a1 s1.length c1) (rS a2 s2.length c2), .seg (J2 ++ ([] ++ (some ⟨.fix, [ir (n.length : Int)].flatten⟩ :: X2)))] by simp [denH, denL, It.den, den0, ir]]
 refine Wp.split' (n := 0) (p := c67_3) (q := r67_4) (lv' := fun i => (exL i r67_4 || resLv il67.res i)) (by kernel_rfl) (fun i q => q) ?_
 refine Wp.split' (n := 0) (p := ca67_3) (q := cb67_3) (lv' := fun i => exL i cb67_3 || (exL i r67_4 || resLv il67.res i)) (by kernel_rfl) (fun i q => q) ?_
 refine Wp.tree (I := [.seg H, dB y mo ba (rS al l.length cl) (rS an n.length cn) fe re ta ad cu oc ic la lo ce (rS a0 s0.length c0) (rS a1 s1.length c1) (rS a2 s2.length c2), .seg (J2 ++ ([] ++ (some ⟨.fix, [ir (n.length : Int)].flatten⟩ :: X2)))]) (cE_ok 0) (tree67n y mo ba fe re ta ad cu oc ic la lo ce al an a0 a1 a2 l.length cl n.length cn s0.length c0 s1.length c1 s2.length c2 u2 none (((rs ++ flat2 l).map ir).length + 1) d2 0 0 H (J2 ++ ([] ++ (some ⟨.fix, [ir (n.length : Int)].flatten⟩ :: X2))) [] []) ⟨rfl, rfl⟩ ?_
 show Wp (Plain.env [] (gE 0)) (fun i => (exL i r67_4 || resLv il67.res i)) cb67_3 _ _ _
 rw [eb3]
 refine w3.mono fun e s h ⟨r1, r2, r3⟩ => ?_
 subst r1 r2 r3
 show Wp (Plain.env [] (gE 0)) (resLv il67.res) r67_4 _ _ K
 refine Wp.split' (n := 0) (p := c67_4) (q := r67_5) (lv' := fun i => (exL i r67_5 || resLv il67.res i)) (by kernel_rfl) (fun i q => q) ?_
 refine Wp.split' (n := 0) (p := ca67_4) (q := cb67_4) (lv' := fun i => exL i cb67_4 || (exL i r67_5 || resLv il67.res i)) (by kernel_rfl) (fun i q => q) ?_
 refine Wp.tree (cE_ok 0) (tree67s y mo ba fe re ta ad cu oc ic la lo ce al an a0 a1 a2 l.length cl n.length cn s0.length c0 s1.length c1 s2.length c2 u3 none m3 d3 0 0 H J3 [] []) ⟨rfl, rfl⟩ ?_
 show Wp (Plain.env [] (gE 0)) (fun i => (exL i r67_5 || resLv il67.res i)) cb67_4 _ _ _
 rw [eb4, show denH [.seg H, dB y mo ba (rS al l.length cl) (rS an n.length cn) fe re ta ad cu oc ic la lo ce (rS a0 s0.length c0) (rS a1 s1.length c1) (rS a2 s2.length c2), .seg J3] = denH [.seg (denH [.seg H, dB y mo ba (rS al l.length cl) (rS an n.length cn) fe re ta ad cu oc ic la lo ce (rS a0 s0.length c0) (rS a1 s1.length c1) (rS a2 s2.length c2)]), .seg J3] by simp [denH, denL, It.den, den0]]
 refine w4.mono fun e s h ⟨r1, r2, r3⟩ => ?_
 subst r1 r2 r3
 exact fin _ _ _ _ (by simpa [List.append_assoc] using l4)
theorem sim {H : Heap} {v : Value} {d : DV} (hd : DlW H v d) (sm : d.sm) : Sim Try.prog 67 [v] H fun v h' => v = freshV H ((encD d).map br) ∧ h' = H ++ freshX 1 ((encD d).map br) := by
 have hd' := hd
 obtain ⟨al, an, a0, a1, a2, cl, cn, c0, c1, c2, rfl, hl, hn, h0, h1, h2⟩ := hd
 refine Sim.fresh (w := 1) (rows := (encD d).map br) ?_ (all_flat _ fun _ => rfl)
 have eH : denH [.seg H] = H := by simp [denH, denL, It.den]
 have g37 : gK 37 [dVal al an a0 a1 a2 d.l.length cl d.n.length cn d.s0.length c0 d.s1.length c1 d.s2.length c2 d] (denH [.seg H, dD d al an a0 a1 a2 cl cn c0 c1 c2]) = some (.bool (rightB d), denH [.seg H, dD d al an a0 a1 a2 cl cn c0 c1 c2]) := preD_u (d := d) (F := fun d h => (.bool (rightB d), h)) ⟨_, rfl, ⟨al, an, a0, a1, a2, cl, cn, c0, c1, c2, rfl, D.up1 hl _, D.up1 hn _, D.up1 h0 _, D.up1 h1 _, D.up1 h2 _⟩, sm⟩
 cases ok : rightB d with
 | false =>
  have e0 : encD d = [] := by unfold encD; rw [ok]; rfl
  rw [ok] at g37
  rw [e0]
  have := fnS_tree (Q := fun v h' => ∃ X, h' = H ++ X ∧ LsS 1 H X v [] ∧ (([] : List (List Value)) = [] → v = .slice none 0 0)) mixed (gE_ok 0) (gE_q 0) (cE_ok 0) st67 (tree67w d.y d.mo d.ba d.fe d.re d.ta d.ad d.cu d.oc d.ic d.la d.lo d.ce al an a0 a1 a2 d.l.length cl d.n.length cn d.s0.length c0 d.s1.length c1 d.s2.length c2 H) ⟨rfl, rfl⟩ ⟨opA_call (args := [_]) rfl g37, [some ⟨.fix, [.int .i64 d.y, .int .i64 d.mo, .int .i64 d.ba, .slice al d.l.length cl, .slice an d.n.length cn, .int .i64 d.fe, .int .i64 d.re, .int .i64 d.ta, .int .i64 d.ad, .int .i64 d.cu, .int .i64 d.oc, .int .i64 d.ic, .int .i64 d.la, .int .i64 d.lo, .int .i64 d.ce, .slice a0 d.s0.length c0, .slice a1 d.s1.length c1, .slice a2 d.s2.length c2]⟩], by simp [denH, denL, It.den, den0], .nil, fun _ => rfl⟩
  rw [eH] at this
  exact this
 | true =>
  rw [ok] at g37
  have lm := right_lim ok
  have e0 : encD d = byt (dealI d) := by unfold encD; rw [ok, if_pos rfl]
  have ne : (encD d).map br ≠ [] := by rw [e0]; intro q; have := congrArg List.length q; simp [byt_len, dealI_len] at this; omega
  have w : Wp (Plain.env [] (gE 0)) (resLv il67.res) il67.body (denF [.seg H] (frS 116 [(0, (.raw (dVal al an a0 a1 a2 d.l.length cl d.n.length cn d.s0.length c0 d.s1.length c1 d.s2.length c2 d)))])) (denH [.seg H]) fun e s h' => (e = .normal ∨ e = .ret) ∧ ∃ v, resA s h' il67.res = some v ∧ ∃ X, h' = H ++ X ∧ LsS 1 H X v ((encD d).map br) ∧ ((encD d).map br = [] → v = .slice none 0 0) := by
   obtain ⟨a, c, X, q1, q2⟩ := appLit2 (I := [.seg H, dD d al an a0 a1 a2 cl cn c0 c1 c2, .blk .fix [sI d.oc, sI d.ic, sI d.la, sI d.lo, sI d.ce]]) (w := 1) (eby := 8) (n1 := 13) (n2 := 1) (r1 := (headI d).map ir) (r2 := [ir (d.l.length : Int)]) (cs1 := [sI d.y, sI d.mo, sI d.ba, sI d.fe, sI d.re, sI d.ta, sI d.ad, sI d.cu, sI d.oc, sI d.ic, sI d.la, sI d.lo, sI d.ce]) (cs2 := [sI (d.l.length : Int)]) rfl (fun _ => rfl) (fun _ => rfl) (ir_w _) (by simp [ir]) rfl rfl (by decide) (by simp) (by decide) (by decide)
   refine Wp.split' (n := 4) (p := c67_0) (q := r67_1) (lv' := fun i => (exL i r67_1 || resLv il67.res i)) (by kernel_rfl) (fun i q => q) ?_
   refine Wp.tree (cE_ok 0) (tree67p d.y d.mo d.ba d.fe d.re d.ta d.ad d.cu d.oc d.ic d.la d.lo d.ce al an a0 a1 a2 d.l.length cl d.n.length cn d.s0.length c0 d.s1.length c1 d.s2.length c2 a 14 c H X) ⟨rfl, rfl⟩ ⟨opA_call (args := [_]) rfl g37, q1 _, ?_⟩
   show Wp (Plain.env [] (gE 0)) (resLv il67.res) r67_1 _ _ _
   have e1 : denH [.seg H, dD d al an a0 a1 a2 cl cn c0 c1 c2, .blk .fix [sI d.oc, sI d.ic, sI d.la, sI d.lo, sI d.ce], .blk .fix [sI d.y, sI d.mo, sI d.ba, sI d.fe, sI d.re, sI d.ta, sI d.ad, sI d.cu, sI d.oc, sI d.ic, sI d.la, sI d.lo, sI d.ce], .blk .fix [sI (d.l.length : Int)], .seg X] = denH [.seg H, dD d al an a0 a1 a2 cl cn c0 c1 c2, .seg (some ⟨.fix, [.int .i64 d.oc, .int .i64 d.ic, .int .i64 d.la, .int .i64 d.lo, .int .i64 d.ce]⟩ :: some ⟨.fix, ((headI d).map ir).flatten⟩ :: some ⟨.fix, [ir (d.l.length : Int)].flatten⟩ :: X)] := by
    simp [denH, denL, It.den, den0, headI, ir]
   rw [e1]
   have hL : LsL 1 (denH [.seg H, dD d al an a0 a1 a2 cl cn c0 c1 c2]) (some ⟨.fix, [.int .i64 d.oc, .int .i64 d.ic, .int .i64 d.la, .int .i64 d.lo, .int .i64 d.ce]⟩ :: some ⟨.fix, ((headI d).map ir).flatten⟩ :: some ⟨.fix, [ir (d.l.length : Int)].flatten⟩ :: X) (.slice a 14 c) ((headI d ++ [(d.l.length : Int)]).map ir) := by
    have e2 : denH [.seg H, dD d al an a0 a1 a2 cl cn c0 c1 c2, .blk .fix [sI d.oc, sI d.ic, sI d.la, sI d.lo, sI d.ce]] = (denH [.seg H, dD d al an a0 a1 a2 cl cn c0 c1 c2]) ++ [some ⟨.fix, [.int .i64 d.oc, .int .i64 d.ic, .int .i64 d.la, .int .i64 d.lo, .int .i64 d.ce]⟩] := by simp [denH, denL, It.den, den0]
    rw [e2] at q2
    rw [List.map_append]
    exact .inl (LsS.ahead q2)
   refine mid67 hl hn h0 h1 h2 lm.l lm.n lm.s0 lm.s1 lm.s2 (by simp [headI]) hL fun J aw nw cw hJ => ?_
   have hr := hJ.rows (by decide) []
   rw [List.append_nil] at hr
   obtain ⟨a2', c2', X2, g2, r2⟩ := fresh_useL (w := 1) (I := [.seg (denH [.seg H, dD d al an a0 a1 a2 cl cn c0 c1 c2]), .seg J]) (rows := (byt (dealI d)).map br) rfl (br_w _)
   rw [List.length_map] at g2 r2
   have g3 := (WB.callB (h := denH [.seg (denH [.seg H, dD d al an a0 a1 a2 cl cn c0 c1 c2]), .seg J]) (zs := dealI d) (s := .slice aw nw cw) (by rw [two_seg]; exact hr) (by rw [dealI_len]; have := lm.l; have := lm.n; have := lm.s0; have := lm.s1; have := lm.s2; omega)).trans (congrArg some g2)
   refine Wp.tree (cE_ok 0) (tree67z aw a2' nw cw (byt (dealI d)).length c2' (denH [.seg H, dD d al an a0 a1 a2 cl cn c0 c1 c2]) J X2) ⟨rfl, rfl⟩ ⟨opA_call (args := [_]) rfl g3, .inr rfl, .slice a2' (byt (dealI d)).length c2', rfl, [some ⟨.fix, [.int .i64 d.y, .int .i64 d.mo, .int .i64 d.ba, .slice al d.l.length cl, .slice an d.n.length cn, .int .i64 d.fe, .int .i64 d.re, .int .i64 d.ta, .int .i64 d.ad, .int .i64 d.cu, .int .i64 d.oc, .int .i64 d.ic, .int .i64 d.la, .int .i64 d.lo, .int .i64 d.ce, .slice a0 d.s0.length c0, .slice a1 d.s1.length c1, .slice a2 d.s2.length c2]⟩] ++ (J ++ X2), by simp [denH, denL, It.den, den0], ?_, fun q => absurd q ne⟩
   rw [e0]
   rw [two_seg] at r2
   have r3 := LsS.ahead r2
   have eG : (denH [.seg H, dD d al an a0 a1 a2 cl cn c0 c1 c2]) = H ++ [some ⟨.fix, [.int .i64 d.y, .int .i64 d.mo, .int .i64 d.ba, .slice al d.l.length cl, .slice an d.n.length cn, .int .i64 d.fe, .int .i64 d.re, .int .i64 d.ta, .int .i64 d.ad, .int .i64 d.cu, .int .i64 d.oc, .int .i64 d.ic, .int .i64 d.la, .int .i64 d.lo, .int .i64 d.ce, .slice a0 d.s0.length c0, .slice a1 d.s1.length c1, .slice a2 d.s2.length c2]⟩] := by simp [denH, denL, It.den, den0]
   rw [eG] at r3
   exact LsS.ahead r3
  rw [eH] at w
  refine wp_sim' mixed (gE_ok 0) (gE_q 0) st67 ?_
  have ef : [dVal al an a0 a1 a2 d.l.length cl d.n.length cn d.s0.length c0 d.s1.length c1 d.s2.length c2 d] ++ List.replicate (il67.ntmps - 1) undef = denF [.seg H] (frS 116 [(0, (.raw (dVal al an a0 a1 a2 d.l.length cl d.n.length cn d.s0.length c0 d.s1.length c1 d.s2.length c2 d)))]) := by kernel_rfl
  show Wp _ _ _ ([dVal al an a0 a1 a2 d.l.length cl d.n.length cn d.s0.length c0 d.s1.length c1 d.s2.length c2 d] ++ List.replicate (il67.ntmps - 1) undef) _ _
  rw [ef]
  exact w
theorem summ : Summ Try.prog 67 (smry preD fun d h => (freshV h ((encD d).map br), h ++ freshX 1 ((encD d).map br))) := smry_ok fun d args h ⟨v, e, hd, sm⟩ => by subst e; exact sim hd sm
theorem use {I : SH} (hI : I.all (It.bnd I.length) = true) {v : Value} {d : DV} (hd : DlW (denH I) v d) (sm : d.sm) :
  ∃ a c X, smry preD (fun d h => (freshV h ((encD d).map br), h ++ freshX 1 ((encD d).map br))) [v] (denH I) = some (.slice a (encD d).length c, denH (I ++ [.seg X])) ∧ RowsW 1 (denH (I ++ [.seg X])) (.slice a (encD d).length c) ((encD d).map br) := by
 obtain ⟨a, c, X, e, h⟩ := fresh_use (w := 1) (rows := (encD d).map br) hI (br_w _) (by decide)
 rw [List.length_map] at e h
 exact ⟨a, c, X, (preD_u ⟨_, rfl, hd, sm⟩).trans (congrArg some e), h⟩
end E67
end DE
end Go.Proofs.Ytgdojnamjkhknaa
