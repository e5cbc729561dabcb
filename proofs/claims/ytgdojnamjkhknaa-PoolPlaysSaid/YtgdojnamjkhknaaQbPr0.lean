/-
  The law PoolPlays: its loop, and the whole.
-/
import Derived.Test.YtgdojnamjkhknaaQbPq9
import Derived.Test.YtgdojnamjkhknaaQbLcB
namespace Go.Proofs.Ytgdojnamjkhknaa
open Go.Am
set_option linter.all false
set_option maxRecDepth 100000
namespace PR
open PO (L5 A4 e5 e4 newL sumF wr e5_1 WF applyF nowOf lostOf pB)
open PO.KP (LsT TapesOk nb)
open TL (TN TNOk)
namespace L
theorem thenK_exit {i : Nat} {J : Fr → Heap → Prop} {K : Post2} {t : SFr} {I : SH} (h : (STr.ret (.exit i) t I).holds (onS K)) : (STr.ret (.exit i) t I).holds (onS (thenK J K)) := h
theorem loop0 {A B : Heap} {ta ra a1 la : Option Addr} {ct rc c1 lc : Nat} {l : List L5} {ts : List TN} {rs : List R7} {at_ : Int} (hs : RowsW 5 (A ++ nb (.slice a1 l.length c1) :: B) (.slice a1 l.length c1) (l.map e5)) (hl : LsS 5 (A ++ [nb (.slice a1 l.length c1)]) B (.slice la l.length lc) (l.map e5)) (hwf : WF l) (hT : TapesOk A (.slice ta ts.length ct) ts) (hr : RowsW 7 A (.slice ra rs.length rc) (rs.map e7)) :
  Wp (Plain.env tblK (gE 0)) (inL [8]) (.block 0 (.loop body12_0)) (denF [.seg A, .blk .fix [(rS a1 l.length c1)], .seg B] (frS 131 [(1, (rS ta ts.length ct)), (2, (rS ra rs.length rc)), (3, (sI at_)), (8, (sB false)), (10, (.ptr 1 0)), (11, (rS la l.length lc)), (12, (sI 0))])) (denH [.seg A, .blk .fix [(rS a1 l.length c1)], .seg B]) fun e t h => ∃ (a2 : Option Addr) (c2 : Nat) (Z : Heap), e = .normal ∧ t = denF [.seg A, .blk .fix [(rS a2 l.length c2)], .seg B, .seg Z] (frS 131 [(8, (sB false))]) ∧ h = denH [.seg A, .blk .fix [(rS a2 l.length c2)], .seg B, .seg Z] := by
 refine Wp.bl (fun m t h => ∃ (i : Nat) (a2 la2 : Option Addr) (c2 lc2 : Nat) (Z : Heap) (l2 : List L5), i + m = min ts.length 8 ∧ l2.length = l.length ∧ WF l2 ∧ RowsW 5 (A ++ nb (.slice a2 l2.length c2) :: (B ++ Z)) (.slice a2 l2.length c2) (l2.map e5) ∧ LsS 5 (A ++ [nb (.slice a2 l2.length c2)]) (B ++ Z) (.slice la2 l2.length lc2) (l2.map e5) ∧
   t = denF [.seg A, .blk .fix [(rS a2 l2.length c2)], .seg (B ++ Z)] (frS 131 [(1, (rS ta ts.length ct)), (2, (rS ra rs.length rc)), (3, (sI at_)), (8, (sB false)), (10, (.ptr 1 0)), (11, (rS la2 l2.length lc2)), (12, (sI i))]) ∧ h = denH [.seg A, .blk .fix [(rS a2 l2.length c2)], .seg (B ++ Z)]) ?_ (min ts.length 8) _ _ ⟨0, a1, la, c1, lc, [], l, by omega, rfl, hwf, by simpa using hs, by simpa using hl, by rw [List.append_nil]; show denF _ _ = denF _ _; kernel_rfl, by rw [List.append_nil]⟩
 rintro m t h ⟨i, a2, la2, c2, lc2, Z, l2, hi, hl2, hw2, hs2, hL2, ht, hh⟩
 rw [ht, hh]
 clear ht hh
 refine Wp.split' (n := 0) (p := t12_h) (q := sndS body12_0) (lv' := fun i => exL i (sndS body12_0) || (fun i => exL i body12_0 || inL [8] i) i) (by kernel_rfl) (fun i q => q) ?_
 have trh := tree12h ta ra la2 a2 ts.length ct rs.length rc l2.length lc2 c2 at_ i A (B ++ Z)
 by_cases hlt : i < min ts.length 8
 ·refine Wp.tree (cE_ok 0) trh ⟨by kernel_rfl, by kernel_rfl⟩ ⟨bif_tt _, fun _ => ?_, fun q => (by simp [Bool.cond_eq_ite] at q; omega)⟩
  show Wp (Plain.env tblK (gE 0)) (fun i => exL i body12_0 || inL [8] i) (sndS body12_0) _ _ _
  refine Wp.split' (n := 0) (p := .block 1 t12_b) (q := t12_i) (lv' := fun i => exL i t12_i || (fun i => exL i body12_0 || inL [8] i) i) (by kernel_rfl) (fun i q => q) ?_
  refine Wp.block ?_
  refine Wp.split' (n := 1) (p := t12_1) (q := t12_2) (lv' := fun i => exL i t12_2 || (fun i => exL i t12_i || (fun i => exL i body12_0 || inL [8] i) i) i) (by kernel_rfl) (fun i q => q) ?_
  refine sw hL2 hw2 hT hr (by omega) (by omega) _ fun X ya yc ys h12 hy => ?_
  show Wp (Plain.env tblK (gE 0)) (fun i => exL i t12_i || (fun i => exL i body12_0 || inL [8] i) i) t12_2 _ _ _
  refine rest (by have := hs2.app X; simpa using this) (hL2.more X) hw2 h12 hy _ fun Z2 a3 la3 c3 lc3 l3 hl3 hw3 hs3 hL3 => ?_
  show Wp (Plain.env tblK (gE 0)) (fun i => exL i body12_0 || inL [8] i) t12_i _ _ _
  have tri := tree12i ta ra la3 a3 ts.length ct rs.length rc l2.length lc3 c3 at_ i A (B ++ Z ++ X ++ Z2)
  refine Wp.tree (cE_ok 0) tri ⟨by kernel_rfl, by kernel_rfl⟩ (end_next (m - 1) (by omega) ⟨i + 1, a3, la3, c3, lc3, Z ++ (X ++ Z2), l3, by omega, by omega, hw3, by rw [hl3]; simpa using hs3, by rw [hl3]; simpa using hL3, ?_, ?_⟩)
  ·rw [hl3, wrap64 (x := (i : Int) + 1) (by omega) (by omega), show B ++ Z ++ X ++ Z2 = B ++ (Z ++ (X ++ Z2)) by simp]
   show denF _ _ = denF _ _; kernel_rfl
  ·rw [hl3, show B ++ Z ++ X ++ Z2 = B ++ (Z ++ (X ++ Z2)) by simp]
 ·refine Wp.tree (cE_ok 0) trh ⟨by kernel_rfl, by kernel_rfl⟩ ⟨bif_tt _, fun q => (by simp [Bool.cond_eq_ite] at q; omega), fun _ => thenK_exit (end_exit ⟨a2, c2, Z, rfl, ?_, ?_⟩)⟩
  ·rw [← hl2]; show denF _ _ = denF _ _; kernel_rfl
  ·rw [← hl2]; simp [denH, denL, It.den, den0]
theorem law {H : Heap} {bv : Value} {bs : List Int} {ta : Option Addr} {ct : Nat} {ts : List TN} {raw : Value} {rs : List R7} {at_ : Int} (hb : RowsW 1 H bv (bs.map ir)) (hT : TapesOk H (.slice ta ts.length ct) ts) (hr : RowsW 7 H raw (rs.map e7)) : Sim Try.prog 12 [bv, .slice ta ts.length ct, raw, .int .i64 at_] H fun v _ => v = .bool true := by
 obtain ⟨ab, cb, rfl⟩ := hb.slcM
 obtain ⟨ra, rc, rfl⟩ := hr.slcM
 have sA : ∀ X : Heap, denH [.seg X] = X := fun X => by simp [denH, denL, It.den]
 obtain ⟨l, el⟩ : ∃ l, l = (K.loansF bs).map newL := ⟨_, rfl⟩
 have hwf : WF l := by rw [el]; exact PO.KP.wf_new bs
 have hm := hwf.len
 obtain ⟨aL, nL, cL, X1, r49, h49⟩ := K.run49 (I := [.seg H]) rfl (by rw [sA]; exact hb)
 have hll : l.length = (K.loansF bs).length := by rw [el]; simp
 have en : nL = l.length := by
  obtain ⟨_, _, q⟩ := h49.slc
  simp only [Value.slice.injEq, List.length_map] at q
  rw [hll]; exact q.2.1
 subst en
 have hL : RowsW 2 (denH [.seg H, .seg X1]) (.slice aL l.length cL) ((K.loansF bs).map e2) := by
  have := h49.rows (by decide) []
  simpa [denH, denL, It.den] using this
 obtain ⟨a1, c1, X2, h45, r45⟩ := PO.N.use45 (I := [.seg H, .seg X1]) rfl hL (by omega)
 rw [← el, ← hll] at h45
 rw [← hll] at r45
 obtain ⟨A, eA⟩ : ∃ A, A = H ++ X1 := ⟨_, rfl⟩
 have hs : RowsW 5 (A ++ nb (.slice a1 l.length c1) :: X2) (.slice a1 l.length c1) (l.map e5) := by
  have := h45.rows (by decide) []
  rw [eA]
  simpa [denH, denL, It.den, den0] using this
 have hL2 : RowsW 2 (denH [.seg H, .seg X1, .blk .fix [(rS a1 l.length c1)], .seg X2]) (.slice aL l.length cL) ((K.loansF bs).map e2) := by
  have := hL.app (nb (.slice a1 l.length c1) :: X2)
  simpa [denH, denL, It.den, den0, nb] using this
 obtain ⟨la, lc, X3, h50, r50⟩ := G.use50 (I := [.seg H, .seg X1, .blk .fix [(rS a1 l.length c1)], .seg X2]) rfl hL2 (by omega)
 rw [← el, ← hll] at h50
 rw [← hll] at r50
 have e50 : denH [.seg H, .seg X1, .blk .fix [(rS a1 l.length c1)], .seg X2] = (A ++ [nb (.slice a1 l.length c1)]) ++ X2 := by rw [eA]; simp [denH, denL, It.den, den0, nb]
 rw [e50] at h50
 have hl := h50.ahead
 have hT' : TapesOk A (.slice ta ts.length ct) ts := by rw [eA]; exact PO.KP.TapesOk.app hT X1
 have hr' : RowsW 7 A (.slice ra rs.length rc) (rs.map e7) := by rw [eA]; exact hr.app X1
 have w : Wp (Plain.env tblK (gE 0)) (resLv il12.res) il12.body (denF [.seg H] (frS 131 [(0, (rS ab bs.length cb)), (1, (rS ta ts.length ct)), (2, (rS ra rs.length rc)), (3, (sI at_))])) (denH [.seg H]) fun e s h' => (e = .normal ∨ e = .ret) ∧ ∃ v, resA s h' il12.res = some v ∧ v = .bool true := by
  refine Wp.split' (n := 3) (p := c12_0) (q := r12_1) (lv' := fun i => (exL i r12_1 || resLv il12.res i)) (by kernel_rfl) (fun i q => q) ?_
  have trp := tree12p ab aL a1 la ta ra bs.length cb l.length cL c1 lc ts.length ct rs.length rc at_ H X1 X2 X3
  refine Wp.tree (cE_ok 0) trp ⟨by kernel_rfl, by kernel_rfl⟩ ⟨call (f := 49) (args := [_]) rfl r49, call (f := 45) (args := [_]) rfl r45, call (f := 50) (args := [_]) rfl r50, ?_⟩
  have eh : denH [.seg H, .seg X1, .blk .fix [(rS a1 l.length c1)], .seg X2, .seg X3] = denH [.seg A, .blk .fix [(rS a1 l.length c1)], .seg (X2 ++ X3)] := by rw [eA]; simp [denH, denL, It.den, den0]
  have ef : denF [.seg H, .seg X1, .blk .fix [(rS a1 l.length c1)], .seg X2, .seg X3] (frS 131 [(1, (rS ta ts.length ct)), (2, (rS ra rs.length rc)), (3, (sI at_)), (8, (sB false)), (10, (.ptr 2 0)), (11, (rS la l.length lc))]) = denF [.seg A, .blk .fix [(rS a1 l.length c1)], .seg (X2 ++ X3)] (frS 131 [(1, (rS ta ts.length ct)), (2, (rS ra rs.length rc)), (3, (sI at_)), (8, (sB false)), (10, (.ptr 1 0)), (11, (rS la l.length lc))]) := by
   have q1 : denF [.seg H, .seg X1, .blk .fix [(rS a1 l.length c1)], .seg X2, .seg X3] (frS 131 [(1, (rS ta ts.length ct)), (2, (rS ra rs.length rc)), (3, (sI at_)), (8, (sB false)), (10, (.ptr 2 0)), (11, (rS la l.length lc))]) = denF [] (frS 131 [(1, (rS ta ts.length ct)), (2, (rS ra rs.length rc)), (3, (sI at_)), (8, (sB false)), (10, (.raw (denV (ofs [.seg H, .seg X1, .blk .fix [(rS a1 l.length c1)], .seg X2, .seg X3]) (.ptr 2 0)))), (11, (rS la l.length lc))]) := by show denF _ _ = denF _ _; kernel_rfl
   have q2 : denF [.seg A, .blk .fix [(rS a1 l.length c1)], .seg (X2 ++ X3)] (frS 131 [(1, (rS ta ts.length ct)), (2, (rS ra rs.length rc)), (3, (sI at_)), (8, (sB false)), (10, (.ptr 1 0)), (11, (rS la l.length lc))]) = denF [] (frS 131 [(1, (rS ta ts.length ct)), (2, (rS ra rs.length rc)), (3, (sI at_)), (8, (sB false)), (10, (.raw (denV (ofs [.seg A, .blk .fix [(rS a1 l.length c1)], .seg (X2 ++ X3)]) (.ptr 1 0)))), (11, (rS la l.length lc))]) := by show denF _ _ = denF _ _; kernel_rfl
   have q3 : denV (ofs [.seg H, .seg X1, .blk .fix [(rS a1 l.length c1)], .seg X2, .seg X3]) (.ptr 2 0) = denV (ofs [.seg A, .blk .fix [(rS a1 l.length c1)], .seg (X2 ++ X3)]) (.ptr 1 0) := by rw [eA]; simp [denV, denA, den0, ofs, It.len, off]
   rw [q1, q2, q3]
  show Wp _ _ r12_1 (denF [.seg H, .seg X1, .blk .fix [(rS a1 l.length c1)], .seg X2, .seg X3] (frS 131 [(1, (rS ta ts.length ct)), (2, (rS ra rs.length rc)), (3, (sI at_)), (8, (sB false)), (10, (.ptr 2 0)), (11, (rS la l.length lc))])) (denH [.seg H, .seg X1, .blk .fix [(rS a1 l.length c1)], .seg X2, .seg X3]) _
  rw [eh, ef]
  have hs' : RowsW 5 (A ++ nb (.slice a1 l.length c1) :: (X2 ++ X3)) (.slice a1 l.length c1) (l.map e5) := by
   have := hs.app X3; simpa using this
  obtain ⟨e, t1, h1, ⟨a2, c2, Z, rfl, rfl, rfl⟩, w1⟩ := (loop0 (at_ := at_) hs' hl hwf hT' hr').exact
  have trq := tree12q ta ra la a1 a2 ts.length ct rs.length rc l.length lc c1 c2 at_ A (X2 ++ X3) Z
  exact Wp.tree (cE_ok 0) trq ⟨by kernel_rfl, by kernel_rfl⟩ ⟨w1, rfl, .inr rfl, .bool true, rfl, rfl⟩
 rw [sA] at w
 refine wp_sim' mixed (gE_ok 0) (gE_q 0) st12 ?_
 have ef : [.slice ab bs.length cb, .slice ta ts.length ct, .slice ra rs.length rc, .int .i64 at_] ++ List.replicate (il12.ntmps - 4) undef = denF [.seg H] (frS 131 [(0, (rS ab bs.length cb)), (1, (rS ta ts.length ct)), (2, (rS ra rs.length rc)), (3, (sI at_))]) := by kernel_rfl
 show Wp _ _ _ ([.slice ab bs.length cb, .slice ta ts.length ct, .slice ra rs.length rc, .int .i64 at_] ++ List.replicate (il12.ntmps - 4) undef) _ _
 rw [ef]
 exact w
theorem lawA (H : Heap) (xs : List Value) (h : F2 (fun (p : QM) a => p.Q H a) [qA false [.s 1 [.i .i64]], qN 6 [.s 1 [.i .i64], .s 1 [.i .i64], .s 1 [.i .i64], .s 1 [.i .i64], .s 1 [.i .i64], .s 1 [.i .i64]], qA false [.s 7 [.i .i64, .i .i64, .i .i64, .i .i64, .i .i64, .i .i64, .b]], qA false [.f (.i .i64)]] xs) : Sim Try.prog 12 xs H fun v _ => v = .bool true := by
 cases h with
 | cons h0 h => cases h with
  | cons h1 h => cases h with
   | cons h2 h => cases h with
    | cons h3 h => cases h with
     | nil =>
      obtain ⟨bs, hb, _⟩ := lt_ints (arg_one h0)
      obtain ⟨ts, ta, ct, rfl, hT, hn⟩ := PO.KP.nest_tapes h1
      obtain ⟨rs, hr, _, _⟩ := lt_r7 (arg_one h2)
      obtain ⟨at_, rfl, _⟩ := lt_int (arg_one h3)
      exact law hb hT hr
end L
end PR
end Go.Proofs.Ytgdojnamjkhknaa
