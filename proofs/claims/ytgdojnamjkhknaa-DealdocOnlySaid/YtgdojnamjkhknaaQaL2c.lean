/-
  The law DealdocOnly.
-/
import Derived.Test.YtgdojnamjkhknaaQaL2b
namespace Go.Proofs.Ytgdojnamjkhknaa
open Go.Am
set_option linter.all false
set_option maxRecDepth 100000
namespace T21
open DQ
open K (KV KW kVal dealF kB kU)
open D (DV DlW dVal preD rightB)
open DE (dB dZ dX dD encD)
def hn21h (k0 k1 k2 k3 k4 k5 k6 k7 k8 k9 k10 k11 k12 at_ x how nm : Int) (u0 u1 u2 u3 u4 u5 u6 : Value) (y mo ba fe re ta ad cu oc ic la lo ce : Int) (al an a0 a1 a2 : Option Addr) (nl cl nn cn n0 c0 n1 c1 n2 c2 : Nat) (ar a3 : Option Addr) (a4 : Addr) (nr cr n3 c3 c4 : Nat) (H X1 X2 X3 : Heap) : Hs := (.use 26000018 (.raw (.agg ⟨[(.int .i64 y), (.int .i64 mo), (.int .i64 ba), (.slice al nl cl), (.slice an nn cn), (.int .i64 fe), (.int .i64 re), (.int .i64 ta), (.int .i64 ad), (.int .i64 cu), (.int .i64 oc), (.int .i64 ic), (.int .i64 la), (.int .i64 lo), (.int .i64 ce), (.slice a0 n0 c0), (.slice a1 n1 c1), (.slice a2 n2 c2)]⟩)) ⟨[], [.seg X1]⟩ (.use 26000019 (rS a3 n3 c3) ⟨[], [.seg X2]⟩ (.use 30000020 (rS (some a4) n3 c4) ⟨[], [.seg X3]⟩ (.pur 10000023 (.bool false) (.con (.pur 10000027 (.int .i64 nm) .nil))))))
theorem tree21h (k0 k1 k2 k3 k4 k5 k6 k7 k8 k9 k10 k11 k12 at_ x how nm : Int) (u0 u1 u2 u3 u4 u5 u6 : Value) (y mo ba fe re ta ad cu oc ic la lo ce : Int) (al an a0 a1 a2 : Option Addr) (nl cl nn cn n0 c0 n1 c1 n2 c2 : Nat) (ar a3 : Option Addr) (a4 : Addr) (nr cr n3 c3 c4 : Nat) (H X1 X2 X3 : Heap) : pieceS tbl (gE 0) (cE 0) 300 (fun i => (exL i r21_1 || resLv il21.res i)) c21_0 (hn21h k0 k1 k2 k3 k4 k5 k6 k7 k8 k9 k10 k11 k12 at_ x how nm u0 u1 u2 u3 u4 u5 u6 y mo ba fe re ta ad cu oc ic la lo ce al an a0 a1 a2 nl cl nn cn n0 c0 n1 c1 n2 c2 ar a3 a4 nr cr n3 c3 c4 H X1 X2 X3) (frS 115 [(0, (.raw (.agg ⟨[(.int .i64 k0), (.int .i64 k1), (.int .i64 k2), (.int .i64 k3), (.int .i64 k4), (.int .i64 k5), (.int .i64 k6), (.int .i64 k7), (.int .i64 k8), (.int .i64 k9), (.int .i64 k10), (.int .i64 k11), (.int .i64 k12), u0, u1, u2, u3, u4, u5, u6]⟩))), (1, (rS ar nr cr)), (2, (sI at_)), (3, (.raw (.int .u8 x))), (4, (sI how))]) [.seg H] =
(.claim (opA (Plain.env tbl (gE 0)) (.call 41 [(.const (.agg ⟨[(.int .i64 k0), (.int .i64 k1), (.int .i64 k2), (.int .i64 k3), (.int .i64 k4), (.int .i64 k5), (.int .i64 k6), (.int .i64 k7), (.int .i64 k8), (.int .i64 k9), (.int .i64 k10), (.int .i64 k11), (.int .i64 k12), u0, u1, u2, u3, u4, u5, u6]⟩))]) [] (denH [.seg H, (kU k0 k1 k2 k3 k4 k5 k6 k7 k8 k9 k10 k11 k12 u0 u1 u2 u3 u4 u5 u6), .blk .fix []]) = some ((.agg ⟨[(.int .i64 y), (.int .i64 mo), (.int .i64 ba), (.slice al nl cl), (.slice an nn cn), (.int .i64 fe), (.int .i64 re), (.int .i64 ta), (.int .i64 ad), (.int .i64 cu), (.int .i64 oc), (.int .i64 ic), (.int .i64 la), (.int .i64 lo), (.int .i64 ce), (.slice a0 n0 c0), (.slice a1 n1 c1), (.slice a2 n2 c2)]⟩), denH [.seg H, (kU k0 k1 k2 k3 k4 k5 k6 k7 k8 k9 k10 k11 k12 u0 u1 u2 u3 u4 u5 u6), .blk .fix [], .seg X1]))
 (.claim (opA (Plain.env tbl (gE 0)) (.call 67 [(.const (.agg ⟨[(.int .i64 y), (.int .i64 mo), (.int .i64 ba), (.slice al nl cl), (.slice an nn cn), (.int .i64 fe), (.int .i64 re), (.int .i64 ta), (.int .i64 ad), (.int .i64 cu), (.int .i64 oc), (.int .i64 ic), (.int .i64 la), (.int .i64 lo), (.int .i64 ce), (.slice a0 n0 c0), (.slice a1 n1 c1), (.slice a2 n2 c2)]⟩))]) [] (denH [.seg H, (kU k0 k1 k2 k3 k4 k5 k6 k7 k8 k9 k10 k11 k12 u0 u1 u2 u3 u4 u5 u6), .blk .fix [], .seg X1]) = some ((.slice a3 n3 c3), denH [.seg H, (kU k0 k1 k2 k3 k4 k5 k6 k7 k8 k9 k10 k11 k12 u0 u1 u2 u3 u4 u5 u6), .blk .fix [], .seg X1, .seg X2]))
 (.claim (opA (Plain.env tbl (gE 0)) (.append 1 1 (.const (denV (ofs [.seg H, (kU k0 k1 k2 k3 k4 k5 k6 k7 k8 k9 k10 k11 k12 u0 u1 u2 u3 u4 u5 u6), .blk .fix [], .seg X1, .seg X2]) (.sl 2 0 0 0))) (.const (.slice a3 n3 c3))) [] (denH [.seg H, (kU k0 k1 k2 k3 k4 k5 k6 k7 k8 k9 k10 k11 k12 u0 u1 u2 u3 u4 u5 u6), .blk .fix [], .seg X1, .seg X2]) = some ((.slice (some a4) n3 c4), denH [.seg H, (kU k0 k1 k2 k3 k4 k5 k6 k7 k8 k9 k10 k11 k12 u0 u1 u2 u3 u4 u5 u6), .blk .fix [], .seg X1, .seg X2, .seg X3]))
 (.claim (opA (Plain.env tbl (gE 0)) (.bin .eql (kI (n3 : Int)) (kI 0)) [] [] = some ((.bool false), []))
 (.claim (opA (Plain.env tbl (gE 0)) (.bin .sub (kI (n3 : Int)) (kI 1)) [] [] = some ((.int .i64 nm), []))
 (.req (preWithin 0 nm) (.ret .normal (frS 115 [(1, (rS ar nr cr)), (3, (.raw (.int .u8 x))), (4, (sI how)), (10, (sB false)), (11, (rS (some a4) n3 c4)), (12, (sI (wn at_ 0 nm)))]) [.seg H, (kU k0 k1 k2 k3 k4 k5 k6 k7 k8 k9 k10 k11 k12 u0 u1 u2 u3 u4 u5 u6), .blk .fix [], .seg X1, .seg X2, .seg X3]))))))) := by kernel_rfl
theorem sub_ok (Γ : Env) (x y z : Int) (h : z = IntKind.wrap .i64 (x - y)) : opA Γ (.bin .sub (kI x) (kI y)) [] [] = some (.int .i64 z, []) := by subst h; rfl
set_option maxHeartbeats 4000000 in
theorem law {H : Heap} {v raw : Value} {k : KV} {ys : List Int} {at_ x how : Int} (hk : KW H v k) (hno : k.no.length ≤ 140737488355328) (hy : RowsW 1 H raw (ys.map br)) (iy : ∀ z ∈ ys, InB z) : Sim Try.prog 21 [v, raw, .int .i64 at_, .int .u8 x, .int .i64 how] H fun v _ => v = .bool true := by
 obtain ⟨ar, cr, rfl⟩ := hy.slcM
 have hk' := hk
 obtain ⟨b0, b1, b2, b3, b4, b5, b6, x0, x1, x2, x3, x4, x5, x6, rfl, _⟩ := hk
 obtain ⟨d, ed⟩ : ∃ d, d = dealF k := ⟨_, rfl⟩
 obtain ⟨al, an, a0, a1, a2, cl, cn, c0, c1, c2, X1, g1, hl, hn, h0, h1, h2⟩ := LK.use41 (I := [.seg H, (kB k.k0 k.k1 k.k2 k.k3 k.k4 k.k5 k.k6 k.k7 k.k8 k.k9 k.k10 k.k11 k.k12 (rS b0 k.lo.length x0) (rS b1 k.no.length x1) (rS b2 k.ra.length x2) (rS b3 k.rt.length x3) (rS b4 k.z0.length x4) (rS b5 k.z1.length x5) (rS b6 k.z2.length x6)), .blk .fix []]) rfl (LK.KW.up hk' _) hno
 rw [← ed] at g1 hl hn h0 h1 h2
 have sm : d.sm := by rw [ed]; exact LK.deal_sm k
 have rt : rightB d = true := by rw [ed]; exact K.deal_right k
 have lm := DE.right_lim rt
 have r1 : DlW (denH ([.seg H, (kB k.k0 k.k1 k.k2 k.k3 k.k4 k.k5 k.k6 k.k7 k.k8 k.k9 k.k10 k.k11 k.k12 (rS b0 k.lo.length x0) (rS b1 k.no.length x1) (rS b2 k.ra.length x2) (rS b3 k.rt.length x3) (rS b4 k.z0.length x4) (rS b5 k.z1.length x5) (rS b6 k.z2.length x6)), .blk .fix []] ++ .seg X1 :: [])) (dVal al an a0 a1 a2 d.l.length cl d.n.length cn d.s0.length c0 d.s1.length c1 d.s2.length c2 d) d := ⟨al, an, a0, a1, a2, cl, cn, c0, c1, c2, rfl, LK.At.at_ hl rfl rfl [], LK.At.at_ hn rfl rfl [], LK.At.at_ h0 rfl rfl [], LK.At.at_ h1 rfl rfl [], LK.At.at_ h2 rfl rfl []⟩
 obtain ⟨a3, c3, X2, g2, q3⟩ := DE.E67.use (I := [.seg H, (kB k.k0 k.k1 k.k2 k.k3 k.k4 k.k5 k.k6 k.k7 k.k8 k.k9 k.k10 k.k11 k.k12 (rS b0 k.lo.length x0) (rS b1 k.no.length x1) (rS b2 k.ra.length x2) (rS b3 k.rt.length x3) (rS b4 k.z0.length x4) (rS b5 k.z1.length x5) (rS b6 k.z2.length x6)), .blk .fix [], .seg X1]) rfl r1 sm
 have ne : (encD d).length = 8 * (18 + 2 * d.l.length + 3 * d.n.length + 2 * d.s0.length + 2 * d.s1.length + 2 * d.s2.length) := by
  unfold encD; rw [rt, if_pos rfl, WB.byt_len, DE.dealI_len]
 have l1 := lm.l
 have l2 := lm.n
 have l3 := lm.s0
 have l4 := lm.s1
 have l5 := lm.s2
 have iB : ∀ z ∈ encD d, InB z := by unfold encD; rw [rt, if_pos rfl]; exact WB.byt_in _
 have eq : denH [.seg H, (kB k.k0 k.k1 k.k2 k.k3 k.k4 k.k5 k.k6 k.k7 k.k8 k.k9 k.k10 k.k11 k.k12 (rS b0 k.lo.length x0) (rS b1 k.no.length x1) (rS b2 k.ra.length x2) (rS b3 k.rt.length x3) (rS b4 k.z0.length x4) (rS b5 k.z1.length x5) (rS b6 k.z2.length x6)), .blk .fix [], .seg X1, .seg X2] = denH [.seg H, (kB k.k0 k.k1 k.k2 k.k3 k.k4 k.k5 k.k6 k.k7 k.k8 k.k9 k.k10 k.k11 k.k12 (rS b0 k.lo.length x0) (rS b1 k.no.length x1) (rS b2 k.ra.length x2) (rS b3 k.rt.length x3) (rS b4 k.z0.length x4) (rS b5 k.z1.length x5) (rS b6 k.z2.length x6))] ++ ([some ⟨.fix, []⟩] ++ (X1 ++ X2)) := by
  have := denH_app (I := [.seg H, (kB k.k0 k.k1 k.k2 k.k3 k.k4 k.k5 k.k6 k.k7 k.k8 k.k9 k.k10 k.k11 k.k12 (rS b0 k.lo.length x0) (rS b1 k.no.length x1) (rS b2 k.ra.length x2) (rS b3 k.rt.length x3) (rS b4 k.z0.length x4) (rS b5 k.z1.length x5) (rS b6 k.z2.length x6))]) (J := [.blk .fix [], .seg X1, .seg X2]) rfl
  refine this.trans ?_
  simp [denL, It.den]
 obtain ⟨v, X3, g4, l6, hs⟩ := LsS.all (w := 1) (eby := 1) (H := denH [.seg H, (kB k.k0 k.k1 k.k2 k.k3 k.k4 k.k5 k.k6 k.k7 k.k8 k.k9 k.k10 k.k11 k.k12 (rS b0 k.lo.length x0) (rS b1 k.no.length x1) (rS b2 k.ra.length x2) (rS b3 k.rt.length x3) (rS b4 k.z0.length x4) (rS b5 k.z1.length x5) (rS b6 k.z2.length x6))]) (J := [some ⟨.fix, []⟩]) (R := X1 ++ X2) (l := .slice (some ⟨(denH [.seg H, (kB k.k0 k.k1 k.k2 k.k3 k.k4 k.k5 k.k6 k.k7 k.k8 k.k9 k.k10 k.k11 k.k12 (rS b0 k.lo.length x0) (rS b1 k.no.length x1) (rS b2 k.ra.length x2) (rS b3 k.rt.length x3) (rS b4 k.z0.length x4) (rS b5 k.z1.length x5) (rS b6 k.z2.length x6))]).length + 0, 0, none⟩) 0 0) (x := .slice a3 (encD d).length c3) (new := (encD d).map br) (.inr (.inl ⟨0, rfl, rfl, rfl⟩)) (by rw [← eq]; exact q3.src) (br_w _) (by decide) (by simp; omega) (by simp; omega)
 obtain ⟨a4, n4, c4, rfl⟩ := hs ⟨_, _, _, rfl⟩
 obtain ⟨_, _, en⟩ := l6.slcM
 simp only [Value.slice.injEq] at en
 obtain ⟨_, rfl, _⟩ := en
 obtain ⟨i, ei, hi⟩ : ∃ i : Nat, (i : Int) = wn at_ 0 (((encD d).length : Int) - 1) ∧ i < (encD d).length := by
  have q1 := wn_lo (x := at_) (lo := 0) (hi := ((encD d).length : Int) - 1) (by omega)
  have q2 := wn_hi (x := at_) (lo := 0) (hi := ((encD d).length : Int) - 1) (by omega)
  exact ⟨(wn at_ 0 (((encD d).length : Int) - 1)).toNat, by omega, by omega⟩
 have hy' : RowsW 1 (denH [.seg H, (kB k.k0 k.k1 k.k2 k.k3 k.k4 k.k5 k.k6 k.k7 k.k8 k.k9 k.k10 k.k11 k.k12 (rS b0 k.lo.length x0) (rS b1 k.no.length x1) (rS b2 k.ra.length x2) (rS b3 k.rt.length x3) (rS b4 k.z0.length x4) (rS b5 k.z1.length x5) (rS b6 k.z2.length x6))]) (.slice ar ys.length cr) (ys.map br) := D.up1 hy _
 have eq3 : denH [.seg H, (kB k.k0 k.k1 k.k2 k.k3 k.k4 k.k5 k.k6 k.k7 k.k8 k.k9 k.k10 k.k11 k.k12 (rS b0 k.lo.length x0) (rS b1 k.no.length x1) (rS b2 k.ra.length x2) (rS b3 k.rt.length x3) (rS b4 k.z0.length x4) (rS b5 k.z1.length x5) (rS b6 k.z2.length x6)), .blk .fix [], .seg X1, .seg X2, .seg X3] = denH [.seg H, (kB k.k0 k.k1 k.k2 k.k3 k.k4 k.k5 k.k6 k.k7 k.k8 k.k9 k.k10 k.k11 k.k12 (rS b0 k.lo.length x0) (rS b1 k.no.length x1) (rS b2 k.ra.length x2) (rS b3 k.rt.length x3) (rS b4 k.z0.length x4) (rS b5 k.z1.length x5) (rS b6 k.z2.length x6))] ++ ([some ⟨.fix, []⟩] ++ (X1 ++ X2 ++ X3)) := by
  have := denH_app (I := [.seg H, (kB k.k0 k.k1 k.k2 k.k3 k.k4 k.k5 k.k6 k.k7 k.k8 k.k9 k.k10 k.k11 k.k12 (rS b0 k.lo.length x0) (rS b1 k.no.length x1) (rS b2 k.ra.length x2) (rS b3 k.rt.length x3) (rS b4 k.z0.length x4) (rS b5 k.z1.length x5) (rS b6 k.z2.length x6))]) (J := [.blk .fix [], .seg X1, .seg X2, .seg X3]) rfl
  refine this.trans ?_
  simp [denL, It.den]
 have w : Wp (Plain.env tbl (gE 0)) (resLv il21.res) il21.body (denF [.seg H] (frS 115 [(0, (.raw (kVal b0 b1 b2 b3 b4 b5 b6 x0 x1 x2 x3 x4 x5 x6 k))), (1, (rS ar ys.length cr)), (2, (sI at_)), (3, (.raw (.int .u8 x))), (4, (sI how))])) (denH [.seg H]) fun e s h' => (e = .normal ∨ e = .ret) ∧ ∃ v, resA s h' il21.res = some v ∧ v = .bool true := by
  refine Wp.split' (n := 3) (p := c21_0) (q := r21_1) (lv' := fun i => (exL i r21_1 || resLv il21.res i)) (by kernel_rfl) (fun i q => q) ?_
  have tr := tree21h k.k0 k.k1 k.k2 k.k3 k.k4 k.k5 k.k6 k.k7 k.k8 k.k9 k.k10 k.k11 k.k12 at_ x how (((encD d).length : Int) - 1) (.slice b0 k.lo.length x0) (.slice b1 k.no.length x1) (.slice b2 k.ra.length x2) (.slice b3 k.rt.length x3) (.slice b4 k.z0.length x4) (.slice b5 k.z1.length x5) (.slice b6 k.z2.length x6) d.y d.mo d.ba d.fe d.re d.ta d.ad d.cu d.oc d.ic d.la d.lo d.ce al an a0 a1 a2 d.l.length cl d.n.length cn d.s0.length c0 d.s1.length c1 d.s2.length c2 ar a3 a4 ys.length cr (encD d).length c3 c4 H X1 X2 X3
  rw [← ei] at tr
  refine Wp.tree (cE_ok 0) tr ⟨rfl, rfl⟩ ⟨call (args := [_]) rfl g1, call (args := [_]) rfl g2, ?_, eql_ok _ _ _ _ (decide_eq_false (by omega)).symm, sub_ok _ _ _ _ (by rw [wrap64 (by omega) (by omega)]), by simp [preWithin]; omega, ?_⟩
  ·have e9 : denV (ofs [.seg H, (kB k.k0 k.k1 k.k2 k.k3 k.k4 k.k5 k.k6 k.k7 k.k8 k.k9 k.k10 k.k11 k.k12 (rS b0 k.lo.length x0) (rS b1 k.no.length x1) (rS b2 k.ra.length x2) (rS b3 k.rt.length x3) (rS b4 k.z0.length x4) (rS b5 k.z1.length x5) (rS b6 k.z2.length x6)), .blk .fix [], .seg X1, .seg X2]) (.sl 2 0 0 0) = .slice (some ⟨(denH [.seg H, (kB k.k0 k.k1 k.k2 k.k3 k.k4 k.k5 k.k6 k.k7 k.k8 k.k9 k.k10 k.k11 k.k12 (rS b0 k.lo.length x0) (rS b1 k.no.length x1) (rS b2 k.ra.length x2) (rS b3 k.rt.length x3) (rS b4 k.z0.length x4) (rS b5 k.z1.length x5) (rS b6 k.z2.length x6))]).length + 0, 0, none⟩) 0 0 := by
    simp [denV, denA, den0, ofs, It.len, denH, denL, It.den]
   rw [e9, eq, eq3]
   have := g4 (Plain.env tbl (gE 0))
   simpa [List.append_assoc] using this
  ·show Wp (Plain.env tbl (gE 0)) (resLv il21.res) r21_1 (denF [.seg H, (kB k.k0 k.k1 k.k2 k.k3 k.k4 k.k5 k.k6 k.k7 k.k8 k.k9 k.k10 k.k11 k.k12 (rS b0 k.lo.length x0) (rS b1 k.no.length x1) (rS b2 k.ra.length x2) (rS b3 k.rt.length x3) (rS b4 k.z0.length x4) (rS b5 k.z1.length x5) (rS b6 k.z2.length x6)), .blk .fix [], .seg X1, .seg X2, .seg X3] (frS 115 [(1, (rS ar ys.length cr)), (3, (.raw (.int .u8 x))), (4, (sI how)), (10, (sB false)), (11, (rS (some a4) (encD d).length c4)), (12, (sI i))])) (denH [.seg H, (kB k.k0 k.k1 k.k2 k.k3 k.k4 k.k5 k.k6 k.k7 k.k8 k.k9 k.k10 k.k11 k.k12 (rS b0 k.lo.length x0) (rS b1 k.no.length x1) (rS b2 k.ra.length x2) (rS b3 k.rt.length x3) (rS b4 k.z0.length x4) (rS b5 k.z1.length x5) (rS b6 k.z2.length x6)), .blk .fix [], .seg X1, .seg X2, .seg X3]) _
   obtain ⟨JJ, eJ⟩ : ∃ JJ : Heap, JJ = [some ⟨.fix, []⟩] ++ (X1 ++ X2 ++ X3) := ⟨_, rfl⟩
   have eq5 : denH [.seg H, (kB k.k0 k.k1 k.k2 k.k3 k.k4 k.k5 k.k6 k.k7 k.k8 k.k9 k.k10 k.k11 k.k12 (rS b0 k.lo.length x0) (rS b1 k.no.length x1) (rS b2 k.ra.length x2) (rS b3 k.rt.length x3) (rS b4 k.z0.length x4) (rS b5 k.z1.length x5) (rS b6 k.z2.length x6)), .blk .fix [], .seg X1, .seg X2, .seg X3] = denH [.seg (denH [.seg H, (kB k.k0 k.k1 k.k2 k.k3 k.k4 k.k5 k.k6 k.k7 k.k8 k.k9 k.k10 k.k11 k.k12 (rS b0 k.lo.length x0) (rS b1 k.no.length x1) (rS b2 k.ra.length x2) (rS b3 k.rt.length x3) (rS b4 k.z0.length x4) (rS b5 k.z1.length x5) (rS b6 k.z2.length x6))]), .seg JJ] := by rw [eq3, eJ, DE.two_seg]
   have l7 : LsS 1 (denH [.seg H, (kB k.k0 k.k1 k.k2 k.k3 k.k4 k.k5 k.k6 k.k7 k.k8 k.k9 k.k10 k.k11 k.k12 (rS b0 k.lo.length x0) (rS b1 k.no.length x1) (rS b2 k.ra.length x2) (rS b3 k.rt.length x3) (rS b4 k.z0.length x4) (rS b5 k.z1.length x5) (rS b6 k.z2.length x6))]) JJ (.slice (some a4) (encD d).length c4) ((encD d).map br) := by rw [eJ]; simpa [List.append_assoc] using l6
   rw [eq5, show denF [.seg H, (kB k.k0 k.k1 k.k2 k.k3 k.k4 k.k5 k.k6 k.k7 k.k8 k.k9 k.k10 k.k11 k.k12 (rS b0 k.lo.length x0) (rS b1 k.no.length x1) (rS b2 k.ra.length x2) (rS b3 k.rt.length x3) (rS b4 k.z0.length x4) (rS b5 k.z1.length x5) (rS b6 k.z2.length x6)), .blk .fix [], .seg X1, .seg X2, .seg X3] (frS 115 [(1, (rS ar ys.length cr)), (3, (.raw (.int .u8 x))), (4, (sI how)), (10, (sB false)), (11, (rS (some a4) (encD d).length c4)), (12, (sI i))]) = denF [.seg (denH [.seg H, (kB k.k0 k.k1 k.k2 k.k3 k.k4 k.k5 k.k6 k.k7 k.k8 k.k9 k.k10 k.k11 k.k12 (rS b0 k.lo.length x0) (rS b1 k.no.length x1) (rS b2 k.ra.length x2) (rS b3 k.rt.length x3) (rS b4 k.z0.length x4) (rS b5 k.z1.length x5) (rS b6 k.z2.length x6))]), .seg JJ] (frS 115 [(1, (rS ar ys.length cr)), (3, (.raw (.int .u8 x))), (4, (sI how)), (10, (sB false)), (11, (rS (some a4) (encD d).length c4)), (12, (sI i))]) by show denF _ _ = denF _ _; kernel_rfl]
   exact sw l7 iB (by omega) hi hy' iy fun G' ab' cb' bs' h1 h2 h3 => tail h1 h2 h3
 rw [one] at w
 refine wp_sim' mixed (gE_ok 0) (gE_q 0) st21 ?_
 have ef : [kVal b0 b1 b2 b3 b4 b5 b6 x0 x1 x2 x3 x4 x5 x6 k, .slice ar ys.length cr, .int .i64 at_, .int .u8 x, .int .i64 how] ++ List.replicate (il21.ntmps - 5) undef = denF [.seg H] (frS 115 [(0, (.raw (kVal b0 b1 b2 b3 b4 b5 b6 x0 x1 x2 x3 x4 x5 x6 k))), (1, (rS ar ys.length cr)), (2, (sI at_)), (3, (.raw (.int .u8 x))), (4, (sI how))]) := by kernel_rfl
 show Wp _ _ _ ([kVal b0 b1 b2 b3 b4 b5 b6 x0 x1 x2 x3 x4 x5 x6 k, .slice ar ys.length cr, .int .i64 at_, .int .u8 x, .int .i64 how] ++ List.replicate (il21.ntmps - 5) undef) _ _
 rw [ef]
 exact w
theorem lawA (H : Heap) (xs : List Value) (h : F2 (fun p a => ArgOk H p.1 p.2 a) [(true, [.f (.i .i64), .f (.i .i64), .f (.i .i64), .f (.i .i64), .f (.i .i64), .f (.i .i64), .f (.i .i64), .f (.i .i64), .f (.i .i64), .f (.i .i64), .f (.i .i64), .f (.i .i64), .f (.i .i64), .s 1 [.i .i64], .s 1 [.i .i64], .s 1 [.i .i64], .s 1 [.i .i64], .s 1 [.i .i64], .s 1 [.i .i64], .s 1 [.i .i64]]), (false, [LT.s 1 [.i .u8]]), (false, [LT.f (.i .i64)]), (false, [LT.f (.i .u8)]), (false, [LT.f (.i .i64)])] xs) : Sim Try.prog 21 xs H fun v _ => v = .bool true := by
 cases h with
 | cons h0 h => cases h with
  | cons h1 h => cases h with
   | cons h2 h => cases h with
    | cons h3 h => cases h with
     | cons h4 h => cases h with
      | nil =>
       unfold ArgOk at h0
       rw [if_pos rfl] at h0
       obtain ⟨A, rfl, hA⟩ := h0
       obtain ⟨k, hk, hno⟩ := LK.kv_of hA
       obtain ⟨ys, hy, iy, _⟩ := lt_bytes (arg_one h1)
       obtain ⟨a, rfl, _⟩ := lt_int (arg_one h2)
       obtain ⟨x, rfl, _⟩ := lt_byte (arg_one h3)
       obtain ⟨hw, rfl, _⟩ := lt_int (arg_one h4)
       exact law hk hno hy iy
end T21
end Go.Proofs.Ytgdojnamjkhknaa
