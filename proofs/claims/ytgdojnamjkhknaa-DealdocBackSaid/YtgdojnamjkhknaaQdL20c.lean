/-
  The law DealdocBack: the whole.
-/
import Derived.Test.YtgdojnamjkhknaaQdL20b
namespace Go.Proofs.Ytgdojnamjkhknaa
open Go.Am
set_option linter.all false
set_option maxRecDepth 100000
namespace T20
open DY
open K (KV KW kVal dealF kB)
open D (DV DlW dVal preD preD_u rightB)
open DE (dB dZ dX dD encD dealI)
open DZ (DIn Bnd)
theorem wn_in {x lo hi : Int} (h : lo ≤ hi) (h1 : -1000000000000 ≤ lo) (h2 : hi ≤ 1000000000000) : In64 (wn x lo hi) := by
 have a := wn_lo (x := x) h
 have b := wn_hi (x := x) h
 exact ⟨by omega, by omega⟩
theorem loansG_a : ∀ (l : List Int) (i : Nat), ∀ x ∈ K.loansG i l, 0 ≤ x.a ∧ x.a ≤ 2 * (i + l.length : Nat) + 1
 | [], i, x, h => by simp [K.loansG] at h
 | y :: r, i, x, h => by
  simp only [K.loansG, List.mem_cons] at h
  rcases h with rfl | h
  ·simp only [List.length_cons]; omega
  ·have := loansG_a r (i + 1) x h
   simp only [List.length_cons]; omega
theorem steps_in {s : List R2} (h : D.stpF s = true) : ∀ x ∈ s, In64 x.a ∧ In64 x.b := fun x hx => by
 obtain ⟨⟨a1, a2⟩, b1, b2⟩ := (K.stpF_iff.1 h).2.1 x hx
 have : x.b ≤ 7 := by split at b2 <;> omega
 exact ⟨⟨by omega, by omega⟩, by omega, by omega⟩
theorem deal_in (k : KV) : DIn (dealF k) := by
 have rt := K.deal_right k
 simp only [rightB, Bool.and_eq_true] at rt
 obtain ⟨⟨⟨⟨⟨_, _⟩, _⟩, h3⟩, h4⟩, h5⟩ := rt
 refine ⟨?_, ?_, ?_, steps_in h3, steps_in h4, steps_in h5⟩
 ·intro z hz
  simp only [DE.headI, dealF, List.mem_cons, List.not_mem_nil, or_false] at hz
  rcases hz with rfl | rfl | rfl | rfl | rfl | rfl | rfl | rfl | rfl | rfl | rfl | rfl | rfl
  all_goals exact wn_in (by decide) (by decide) (by decide)
 ·intro x hx
  have hb := K.loansK_b k x hx
  refine ⟨?_, by omega, by omega⟩
  have hx' : x ∈ K.loansF k.lo ++ [⟨99, 50000⟩] := hx
  rcases List.mem_append.1 hx' with hx' | hx'
  ·have := loansG_a _ _ x hx'
   have hl : (k.lo.take 10).length ≤ 10 := List.length_take_le _ _
   exact ⟨by omega, by omega⟩
  ·simp only [List.mem_singleton] at hx'
   subst hx'
   exact ⟨by decide, by decide⟩
 ·intro x hx
  have hp := K.loansK_sum k
  have hd : Int.tdiv (K.sumB (K.loansK k)) 6 = K.sumB (K.loansK k) / 6 := Int.tdiv_eq_ediv_of_nonneg (by omega)
  have hx' : x ∈ K.notesF k.no k.ra k.rt (K.sumB (K.loansK k)) := hx
  simp only [K.notesF, List.mem_map] at hx'
  obtain ⟨i, _, rfl⟩ := hx'
  have b1 := wn_lo (x := K.pk k.no i) (show (0 : Int) ≤ Int.tdiv (K.sumB (K.loansK k)) 6 by omega)
  have b2 := wn_hi (x := K.pk k.no i) (show (0 : Int) ≤ Int.tdiv (K.sumB (K.loansK k)) 6 by omega)
  exact ⟨wn_in (by decide) (by decide) (by decide), ⟨by simp only [K.noteAt]; omega, by simp only [K.noteAt]; omega⟩, wn_in (by decide) (by decide) (by decide)⟩
set_option maxHeartbeats 4000000 in
theorem law {H : Heap} {va vb vr : Value} {k j : KV} {r : DV} (hk : KW H va k) (hj : KW H vb j) (hno : k.no.length ≤ 140737488355328) (hjo : j.no.length ≤ 140737488355328) (hr : DlW H vr r) (hi : DIn r) : Sim Try.prog 20 [va, vb, vr] H fun v _ => v = .bool true := by
 have hk' := hk
 have hj' := hj
 obtain ⟨b0, b1, b2, b3, b4, b5, b6, x0, x1, x2, x3, x4, x5, x6, rfl, _⟩ := hk
 obtain ⟨p0, p1, p2, p3, p4, p5, p6, y0, y1, y2, y3, y4, y5, y6, rfl, i0, i1, i2, i3, i4, i5, i6⟩ := hj
 obtain ⟨ral, ran, ra0, ra1, ra2, rcl, rcn, rc0, rc1, rc2, rfl, sl, sn, s0, s1, s2⟩ := hr
 obtain ⟨d, ed⟩ : ∃ d, d = dealF k := ⟨_, rfl⟩
 obtain ⟨e, ee⟩ : ∃ e, e = dealF j := ⟨_, rfl⟩
 obtain ⟨al, an, a0, a1, a2, cl, cn, c0, c1, c2, X1, g1, hl, hn, h0, h1, h2⟩ := LK.use41 (I := [.seg H, kB k.k0 k.k1 k.k2 k.k3 k.k4 k.k5 k.k6 k.k7 k.k8 k.k9 k.k10 k.k11 k.k12 (rS b0 k.lo.length x0) (rS b1 k.no.length x1) (rS b2 k.ra.length x2) (rS b3 k.rt.length x3) (rS b4 k.z0.length x4) (rS b5 k.z1.length x5) (rS b6 k.z2.length x6), kB j.k0 j.k1 j.k2 j.k3 j.k4 j.k5 j.k6 j.k7 j.k8 j.k9 j.k10 j.k11 j.k12 (rS p0 j.lo.length y0) (rS p1 j.no.length y1) (rS p2 j.ra.length y2) (rS p3 j.rt.length y3) (rS p4 j.z0.length y4) (rS p5 j.z1.length y5) (rS p6 j.z2.length y6), dD r ral ran ra0 ra1 ra2 rcl rcn rc0 rc1 rc2]) rfl (LK.KW.up hk' _) hno
 obtain ⟨eal, ean, ea0, ea1, ea2, ecl, ecn, ec0, ec1, ec2, X2, g2, jl, jn, j0, j1, j2⟩ := LK.use41 (I := [.seg H, kB k.k0 k.k1 k.k2 k.k3 k.k4 k.k5 k.k6 k.k7 k.k8 k.k9 k.k10 k.k11 k.k12 (rS b0 k.lo.length x0) (rS b1 k.no.length x1) (rS b2 k.ra.length x2) (rS b3 k.rt.length x3) (rS b4 k.z0.length x4) (rS b5 k.z1.length x5) (rS b6 k.z2.length x6), kB j.k0 j.k1 j.k2 j.k3 j.k4 j.k5 j.k6 j.k7 j.k8 j.k9 j.k10 j.k11 j.k12 (rS p0 j.lo.length y0) (rS p1 j.no.length y1) (rS p2 j.ra.length y2) (rS p3 j.rt.length y3) (rS p4 j.z0.length y4) (rS p5 j.z1.length y5) (rS p6 j.z2.length y6), dD r ral ran ra0 ra1 ra2 rcl rcn rc0 rc1 rc2, .seg X1]) rfl (LK.KW.up hj' _) hjo
 rw [← ed] at g1 hl hn h0 h1 h2
 rw [← ee] at g2 jl jn j0 j1 j2
 have rd : rightB d = true := by rw [ed]; exact K.deal_right k
 have re : rightB e = true := by rw [ee]; exact K.deal_right j
 have id : DIn d := by rw [ed]; exact deal_in k
 have ie : DIn e := by rw [ee]; exact deal_in j
 have hd : DlW (denH ([.seg H, kB k.k0 k.k1 k.k2 k.k3 k.k4 k.k5 k.k6 k.k7 k.k8 k.k9 k.k10 k.k11 k.k12 (rS b0 k.lo.length x0) (rS b1 k.no.length x1) (rS b2 k.ra.length x2) (rS b3 k.rt.length x3) (rS b4 k.z0.length x4) (rS b5 k.z1.length x5) (rS b6 k.z2.length x6), kB j.k0 j.k1 j.k2 j.k3 j.k4 j.k5 j.k6 j.k7 j.k8 j.k9 j.k10 j.k11 j.k12 (rS p0 j.lo.length y0) (rS p1 j.no.length y1) (rS p2 j.ra.length y2) (rS p3 j.rt.length y3) (rS p4 j.z0.length y4) (rS p5 j.z1.length y5) (rS p6 j.z2.length y6), dD r ral ran ra0 ra1 ra2 rcl rcn rc0 rc1 rc2] ++ .seg X1 :: [.seg X2, dD d al an a0 a1 a2 cl cn c0 c1 c2, dD e eal ean ea0 ea1 ea2 ecl ecn ec0 ec1 ec2])) (dVal al an a0 a1 a2 d.l.length cl d.n.length cn d.s0.length c0 d.s1.length c1 d.s2.length c2 d) d := ⟨al, an, a0, a1, a2, cl, cn, c0, c1, c2, rfl, LK.At.at_ hl rfl rfl _, LK.At.at_ hn rfl rfl _, LK.At.at_ h0 rfl rfl _, LK.At.at_ h1 rfl rfl _, LK.At.at_ h2 rfl rfl _⟩
 have he : DlW (denH ([.seg H, kB k.k0 k.k1 k.k2 k.k3 k.k4 k.k5 k.k6 k.k7 k.k8 k.k9 k.k10 k.k11 k.k12 (rS b0 k.lo.length x0) (rS b1 k.no.length x1) (rS b2 k.ra.length x2) (rS b3 k.rt.length x3) (rS b4 k.z0.length x4) (rS b5 k.z1.length x5) (rS b6 k.z2.length x6), kB j.k0 j.k1 j.k2 j.k3 j.k4 j.k5 j.k6 j.k7 j.k8 j.k9 j.k10 j.k11 j.k12 (rS p0 j.lo.length y0) (rS p1 j.no.length y1) (rS p2 j.ra.length y2) (rS p3 j.rt.length y3) (rS p4 j.z0.length y4) (rS p5 j.z1.length y5) (rS p6 j.z2.length y6), dD r ral ran ra0 ra1 ra2 rcl rcn rc0 rc1 rc2, .seg X1] ++ .seg X2 :: [dD d al an a0 a1 a2 cl cn c0 c1 c2, dD e eal ean ea0 ea1 ea2 ecl ecn ec0 ec1 ec2])) (dVal eal ean ea0 ea1 ea2 e.l.length ecl e.n.length ecn e.s0.length ec0 e.s1.length ec1 e.s2.length ec2 e) e := ⟨eal, ean, ea0, ea1, ea2, ecl, ecn, ec0, ec1, ec2, rfl, LK.At.at_ jl rfl rfl _, LK.At.at_ jn rfl rfl _, LK.At.at_ j0 rfl rfl _, LK.At.at_ j1 rfl rfl _, LK.At.at_ j2 rfl rfl _⟩
 obtain ⟨qa, eqa⟩ : ∃ q : Option Blk, q = (denL (fun _ => 0) [kB k.k0 k.k1 k.k2 k.k3 k.k4 k.k5 k.k6 k.k7 k.k8 k.k9 k.k10 k.k11 k.k12 (rS b0 k.lo.length x0) (rS b1 k.no.length x1) (rS b2 k.ra.length x2) (rS b3 k.rt.length x3) (rS b4 k.z0.length x4) (rS b5 k.z1.length x5) (rS b6 k.z2.length x6)]).head?.join := ⟨_, rfl⟩
 obtain ⟨qb, eqb⟩ : ∃ q : Option Blk, q = (denL (fun _ => 0) [kB j.k0 j.k1 j.k2 j.k3 j.k4 j.k5 j.k6 j.k7 j.k8 j.k9 j.k10 j.k11 j.k12 (rS p0 j.lo.length y0) (rS p1 j.no.length y1) (rS p2 j.ra.length y2) (rS p3 j.rt.length y3) (rS p4 j.z0.length y4) (rS p5 j.z1.length y5) (rS p6 j.z2.length y6)]).head?.join := ⟨_, rfl⟩
 obtain ⟨qc, eqc⟩ : ∃ q : Option Blk, q = (denL (fun _ => 0) [dD r ral ran ra0 ra1 ra2 rcl rcn rc0 rc1 rc2]).head?.join := ⟨_, rfl⟩
 have w : Wp (Plain.env tbl (gE 0)) (resLv il20.res) il20.body (denF [.seg H] (frS 136 [(0, (.raw (kVal b0 b1 b2 b3 b4 b5 b6 x0 x1 x2 x3 x4 x5 x6 k))), (1, (.raw (kVal p0 p1 p2 p3 p4 p5 p6 y0 y1 y2 y3 y4 y5 y6 j))), (2, (.raw (dVal ral ran ra0 ra1 ra2 r.l.length rcl r.n.length rcn r.s0.length rc0 r.s1.length rc1 r.s2.length rc2 r)))])) (denH [.seg H]) fun e s h' => (e = .normal ∨ e = .ret) ∧ ∃ v, resA s h' il20.res = some v ∧ v = .bool true := by
  refine Wp.split' (n := 1) (p := c20_0) (q := r20_1) (lv' := fun i => (exL i r20_1 || resLv il20.res i)) (by kernel_rfl) (fun i q => q) ?_
  have tr := tree20h k.k0 k.k1 k.k2 k.k3 k.k4 k.k5 k.k6 k.k7 k.k8 k.k9 k.k10 k.k11 k.k12 j.k0 j.k1 j.k2 j.k3 j.k4 j.k5 j.k6 j.k7 j.k8 j.k9 j.k10 j.k11 j.k12 d.y d.mo d.ba d.fe d.re d.ta d.ad d.cu d.oc d.ic d.la d.lo d.ce e.y e.mo e.ba e.fe e.re e.ta e.ad e.cu e.oc e.ic e.la e.lo e.ce r.y r.mo r.ba r.fe r.re r.ta r.ad r.cu r.oc r.ic r.la r.lo r.ce
   (.slice b0 k.lo.length x0) (.slice b1 k.no.length x1) (.slice b2 k.ra.length x2) (.slice b3 k.rt.length x3) (.slice b4 k.z0.length x4) (.slice b5 k.z1.length x5) (.slice b6 k.z2.length x6) (.slice p0 j.lo.length y0) (.slice p1 j.no.length y1) (.slice p2 j.ra.length y2) (.slice p3 j.rt.length y3) (.slice p4 j.z0.length y4) (.slice p5 j.z1.length y5) (.slice p6 j.z2.length y6)
   al an a0 a1 a2 eal ean ea0 ea1 ea2 ral ran ra0 ra1 ra2 d.l.length d.n.length d.s0.length d.s1.length d.s2.length cl cn c0 c1 c2 e.l.length e.n.length e.s0.length e.s1.length e.s2.length ecl ecn ec0 ec1 ec2 r.l.length r.n.length r.s0.length r.s1.length r.s2.length rcl rcn rc0 rc1 rc2 H X1 X2
  refine Wp.tree (cE_ok 0) tr ⟨by kernel_rfl, by kernel_rfl⟩ ⟨rfl, call (args := [_]) rfl g1, rfl, call (args := [_]) rfl g2, rfl, rfl, rfl, rfl, by simp [eq0_sl], ?_⟩
  show Wp (Plain.env tbl (gE 0)) (resLv il20.res) r20_1 (denF [.seg H, kB k.k0 k.k1 k.k2 k.k3 k.k4 k.k5 k.k6 k.k7 k.k8 k.k9 k.k10 k.k11 k.k12 (rS b0 k.lo.length x0) (rS b1 k.no.length x1) (rS b2 k.ra.length x2) (rS b3 k.rt.length x3) (rS b4 k.z0.length x4) (rS b5 k.z1.length x5) (rS b6 k.z2.length x6), kB j.k0 j.k1 j.k2 j.k3 j.k4 j.k5 j.k6 j.k7 j.k8 j.k9 j.k10 j.k11 j.k12 (rS p0 j.lo.length y0) (rS p1 j.no.length y1) (rS p2 j.ra.length y2) (rS p3 j.rt.length y3) (rS p4 j.z0.length y4) (rS p5 j.z1.length y5) (rS p6 j.z2.length y6), dD r ral ran ra0 ra1 ra2 rcl rcn rc0 rc1 rc2, .seg X1, .seg X2, dD d al an a0 a1 a2 cl cn c0 c1 c2, dD e eal ean ea0 ea1 ea2 ecl ecn ec0 ec1 ec2] (frS 136 [(5, (.ptr 3 0)), (6, (sB false)), (7, (.ptr 6 0)), (8, (.ptr 7 0))])) (denH [.seg H, kB k.k0 k.k1 k.k2 k.k3 k.k4 k.k5 k.k6 k.k7 k.k8 k.k9 k.k10 k.k11 k.k12 (rS b0 k.lo.length x0) (rS b1 k.no.length x1) (rS b2 k.ra.length x2) (rS b3 k.rt.length x3) (rS b4 k.z0.length x4) (rS b5 k.z1.length x5) (rS b6 k.z2.length x6), kB j.k0 j.k1 j.k2 j.k3 j.k4 j.k5 j.k6 j.k7 j.k8 j.k9 j.k10 j.k11 j.k12 (rS p0 j.lo.length y0) (rS p1 j.no.length y1) (rS p2 j.ra.length y2) (rS p3 j.rt.length y3) (rS p4 j.z0.length y4) (rS p5 j.z1.length y5) (rS p6 j.z2.length y6), dD r ral ran ra0 ra1 ra2 rcl rcn rc0 rc1 rc2, .seg X1, .seg X2, dD d al an a0 a1 a2 cl cn c0 c1 c2, dD e eal ean ea0 ea1 ea2 ecl ecn ec0 ec1 ec2]) _
  have e1 : denH [.seg H, kB k.k0 k.k1 k.k2 k.k3 k.k4 k.k5 k.k6 k.k7 k.k8 k.k9 k.k10 k.k11 k.k12 (rS b0 k.lo.length x0) (rS b1 k.no.length x1) (rS b2 k.ra.length x2) (rS b3 k.rt.length x3) (rS b4 k.z0.length x4) (rS b5 k.z1.length x5) (rS b6 k.z2.length x6), kB j.k0 j.k1 j.k2 j.k3 j.k4 j.k5 j.k6 j.k7 j.k8 j.k9 j.k10 j.k11 j.k12 (rS p0 j.lo.length y0) (rS p1 j.no.length y1) (rS p2 j.ra.length y2) (rS p3 j.rt.length y3) (rS p4 j.z0.length y4) (rS p5 j.z1.length y5) (rS p6 j.z2.length y6), dD r ral ran ra0 ra1 ra2 rcl rcn rc0 rc1 rc2, .seg X1, .seg X2, dD d al an a0 a1 a2 cl cn c0 c1 c2, dD e eal ean ea0 ea1 ea2 ecl ecn ec0 ec1 ec2] = denH [.seg H, .raw qa, .raw qb, .raw qc, .seg X1, .seg X2, dD d al an a0 a1 a2 cl cn c0 c1 c2, dD e eal ean ea0 ea1 ea2 ecl ecn ec0 ec1 ec2] := by subst eqa eqb eqc; kernel_rfl
  have e2 : denF [.seg H, kB k.k0 k.k1 k.k2 k.k3 k.k4 k.k5 k.k6 k.k7 k.k8 k.k9 k.k10 k.k11 k.k12 (rS b0 k.lo.length x0) (rS b1 k.no.length x1) (rS b2 k.ra.length x2) (rS b3 k.rt.length x3) (rS b4 k.z0.length x4) (rS b5 k.z1.length x5) (rS b6 k.z2.length x6), kB j.k0 j.k1 j.k2 j.k3 j.k4 j.k5 j.k6 j.k7 j.k8 j.k9 j.k10 j.k11 j.k12 (rS p0 j.lo.length y0) (rS p1 j.no.length y1) (rS p2 j.ra.length y2) (rS p3 j.rt.length y3) (rS p4 j.z0.length y4) (rS p5 j.z1.length y5) (rS p6 j.z2.length y6), dD r ral ran ra0 ra1 ra2 rcl rcn rc0 rc1 rc2, .seg X1, .seg X2, dD d al an a0 a1 a2 cl cn c0 c1 c2, dD e eal ean ea0 ea1 ea2 ecl ecn ec0 ec1 ec2] (frS 136 [(5, (.ptr 3 0)), (6, (sB false)), (7, (.ptr 6 0)), (8, (.ptr 7 0))]) = denF [.seg H, .raw qa, .raw qb, .raw qc, .seg X1, .seg X2, dD d al an a0 a1 a2 cl cn c0 c1 c2, dD e eal ean ea0 ea1 ea2 ecl ecn ec0 ec1 ec2] (frS 136 [(5, (.ptr 3 0)), (6, (sB false)), (7, (.ptr 6 0)), (8, (.ptr 7 0))]) := by show denF _ _ = denF _ _; kernel_rfl
  have hd' : DlW (denH [.seg H, .raw qa, .raw qb, .raw qc, .seg X1, .seg X2, dD d al an a0 a1 a2 cl cn c0 c1 c2, dD e eal ean ea0 ea1 ea2 ecl ecn ec0 ec1 ec2]) (dVal al an a0 a1 a2 d.l.length cl d.n.length cn d.s0.length c0 d.s1.length c1 d.s2.length c2 d) d := by rw [← e1]; exact hd
  have he' : DlW (denH [.seg H, .raw qa, .raw qb, .raw qc, .seg X1, .seg X2, dD d al an a0 a1 a2 cl cn c0 c1 c2, dD e eal ean ea0 ea1 ea2 ecl ecn ec0 ec1 ec2]) (dVal eal ean ea0 ea1 ea2 e.l.length ecl e.n.length ecn e.s0.length ec0 e.s1.length ec1 e.s2.length ec2 e) e := by rw [← e1]; exact he
  rw [e1, e2]
  refine mid hd' he' rd re id ie fun G => ?_
  have e3 : denH [.seg H, .raw qa, .raw qb, .raw qc, .seg G] = denH [.seg H, .raw qa, .raw qb, dD r ral ran ra0 ra1 ra2 rcl rcn rc0 rc1 rc2, .seg G] := by subst eqc; kernel_rfl
  have e4 : denF [.seg H, .raw qa, .raw qb, .raw qc, .seg G] (frS 136 [(5, (.ptr 3 0)), (6, (sB false))]) = denF [.seg H, .raw qa, .raw qb, dD r ral ran ra0 ra1 ra2 rcl rcn rc0 rc1 rc2, .seg G] (frS 136 [(5, (.ptr 3 0)), (6, (sB false))]) := by show denF _ _ = denF _ _; kernel_rfl
  rw [e3, e4]
  refine cutS sl sn s0 s1 s2 fun e eal ean ea0 ea1 ea2 ecl ecn ec0 ec1 ec2 q hw => ?_
  exact tail hw (by rw [q]; exact cutD_in hi) (by rw [q]; exact cutD_nine r)
 have one : denH [.seg H] = H := by simp [denH, denL, It.den]
 rw [one] at w
 refine wp_sim' mixed (gE_ok 0) (gE_q 0) st20 ?_
 have ef : [kVal b0 b1 b2 b3 b4 b5 b6 x0 x1 x2 x3 x4 x5 x6 k, kVal p0 p1 p2 p3 p4 p5 p6 y0 y1 y2 y3 y4 y5 y6 j, dVal ral ran ra0 ra1 ra2 r.l.length rcl r.n.length rcn r.s0.length rc0 r.s1.length rc1 r.s2.length rc2 r] ++ List.replicate (il20.ntmps - 3) undef = denF [.seg H] (frS 136 [(0, (.raw (kVal b0 b1 b2 b3 b4 b5 b6 x0 x1 x2 x3 x4 x5 x6 k))), (1, (.raw (kVal p0 p1 p2 p3 p4 p5 p6 y0 y1 y2 y3 y4 y5 y6 j))), (2, (.raw (dVal ral ran ra0 ra1 ra2 r.l.length rcl r.n.length rcn r.s0.length rc0 r.s1.length rc1 r.s2.length rc2 r)))]) := by kernel_rfl
 show Wp _ _ _ ([kVal b0 b1 b2 b3 b4 b5 b6 x0 x1 x2 x3 x4 x5 x6 k, kVal p0 p1 p2 p3 p4 p5 p6 y0 y1 y2 y3 y4 y5 y6 j, dVal ral ran ra0 ra1 ra2 r.l.length rcl r.n.length rcn r.s0.length rc0 r.s1.length rc1 r.s2.length rc2 r] ++ List.replicate (il20.ntmps - 3) undef) _ _
 rw [ef]
 exact w
theorem dv_in {H : Heap} {A : List Value} (h : F2 (LT.ok H) [.f (.i .i64), .f (.i .i64), .f (.i .i64), .s 2 [.i .i64, .i .i64], .s 3 [.i .i64, .i .i64, .i .i64], .f (.i .i64), .f (.i .i64), .f (.i .i64), .f (.i .i64), .f (.i .i64), .f (.i .i64), .f (.i .i64), .f (.i .i64), .f (.i .i64), .f (.i .i64), .s 2 [.i .i64, .i .i64], .s 2 [.i .i64, .i .i64], .s 2 [.i .i64, .i .i64]] A) : ∃ d : DV, DlW H (.agg ⟨A⟩) d ∧ DIn d := by
 cases h with
 | cons h0 h =>
  cases h with
  | cons h1 h =>
   cases h with
   | cons h2 h =>
    cases h with
    | cons h3 h =>
     cases h with
     | cons h4 h =>
      cases h with
      | cons h5 h =>
       cases h with
       | cons h6 h =>
        cases h with
        | cons h7 h =>
         cases h with
         | cons h8 h =>
          cases h with
          | cons h9 h =>
           cases h with
           | cons h10 h =>
            cases h with
            | cons h11 h =>
             cases h with
             | cons h12 h =>
              cases h with
              | cons h13 h =>
               cases h with
               | cons h14 h =>
                cases h with
                | cons h15 h =>
                 cases h with
                 | cons h16 h =>
                  cases h with
                  | cons h17 h =>
                   cases h with
                   | nil =>
                    obtain ⟨i0, rfl, g0⟩ := lt_int h0
                    obtain ⟨i1, rfl, g1⟩ := lt_int h1
                    obtain ⟨i2, rfl, g2⟩ := lt_int h2
                    obtain ⟨i5, rfl, g5⟩ := lt_int h5
                    obtain ⟨i6, rfl, g6⟩ := lt_int h6
                    obtain ⟨i7, rfl, g7⟩ := lt_int h7
                    obtain ⟨i8, rfl, g8⟩ := lt_int h8
                    obtain ⟨i9, rfl, g9⟩ := lt_int h9
                    obtain ⟨i10, rfl, g10⟩ := lt_int h10
                    obtain ⟨i11, rfl, g11⟩ := lt_int h11
                    obtain ⟨i12, rfl, g12⟩ := lt_int h12
                    obtain ⟨i13, rfl, g13⟩ := lt_int h13
                    obtain ⟨i14, rfl, g14⟩ := lt_int h14
                    obtain ⟨l3, r3, g3, n3⟩ := lt_r2 h3
                    obtain ⟨l4, r4, g4, n4⟩ := lt_r3 h4
                    obtain ⟨l15, r15, g15, n15⟩ := lt_r2 h15
                    obtain ⟨l16, r16, g16, n16⟩ := lt_r2 h16
                    obtain ⟨l17, r17, g17, n17⟩ := lt_r2 h17
                    obtain ⟨b3, c3, rfl⟩ := r3.slcM
                    obtain ⟨b4, c4, rfl⟩ := r4.slcM
                    obtain ⟨b15, c15, rfl⟩ := r15.slcM
                    obtain ⟨b16, c16, rfl⟩ := r16.slcM
                    obtain ⟨b17, c17, rfl⟩ := r17.slcM
                    exact ⟨⟨i0, i1, i2, i5, i6, i7, i8, i9, i10, i11, i12, i13, i14, l3, l4, l15, l16, l17⟩, ⟨b3, b4, b15, b16, b17, c3, c4, c15, c16, c17, rfl, r3, r4, r15, r16, r17⟩, fun z hz => by
                     simp only [DE.headI, List.mem_cons, List.not_mem_nil, or_false] at hz
                     rcases hz with rfl | rfl | rfl | rfl | rfl | rfl | rfl | rfl | rfl | rfl | rfl | rfl | rfl
                     all_goals assumption, g3, g4, g15, g16, g17⟩
theorem lawA (H : Heap) (xs : List Value) (h : F2 (fun p a => ArgOk H p.1 p.2 a) [(true, [.f (.i .i64), .f (.i .i64), .f (.i .i64), .f (.i .i64), .f (.i .i64), .f (.i .i64), .f (.i .i64), .f (.i .i64), .f (.i .i64), .f (.i .i64), .f (.i .i64), .f (.i .i64), .f (.i .i64), .s 1 [.i .i64], .s 1 [.i .i64], .s 1 [.i .i64], .s 1 [.i .i64], .s 1 [.i .i64], .s 1 [.i .i64], .s 1 [.i .i64]]), (true, [.f (.i .i64), .f (.i .i64), .f (.i .i64), .f (.i .i64), .f (.i .i64), .f (.i .i64), .f (.i .i64), .f (.i .i64), .f (.i .i64), .f (.i .i64), .f (.i .i64), .f (.i .i64), .f (.i .i64), .s 1 [.i .i64], .s 1 [.i .i64], .s 1 [.i .i64], .s 1 [.i .i64], .s 1 [.i .i64], .s 1 [.i .i64], .s 1 [.i .i64]]), (true, [.f (.i .i64), .f (.i .i64), .f (.i .i64), .s 2 [.i .i64, .i .i64], .s 3 [.i .i64, .i .i64, .i .i64], .f (.i .i64), .f (.i .i64), .f (.i .i64), .f (.i .i64), .f (.i .i64), .f (.i .i64), .f (.i .i64), .f (.i .i64), .f (.i .i64), .f (.i .i64), .s 2 [.i .i64, .i .i64], .s 2 [.i .i64, .i .i64], .s 2 [.i .i64, .i .i64]])] xs) : Sim Try.prog 20 xs H fun v _ => v = .bool true := by
 cases h with
 | cons h0 h => cases h with
  | cons h1 h => cases h with
   | cons h2 h => cases h with
    | nil =>
     unfold ArgOk at h0 h1 h2
     rw [if_pos rfl] at h0 h1 h2
     obtain ⟨A, rfl, hA⟩ := h0
     obtain ⟨k, hk, hno⟩ := LK.kv_of hA
     obtain ⟨B, rfl, hB⟩ := h1
     obtain ⟨j, hj, hjo⟩ := LK.kv_of hB
     obtain ⟨C, rfl, hC⟩ := h2
     obtain ⟨r, hr, hi⟩ := dv_in hC
     exact law hk hj hno hjo hr hi
end T20
end Go.Proofs.Ytgdojnamjkhknaa
