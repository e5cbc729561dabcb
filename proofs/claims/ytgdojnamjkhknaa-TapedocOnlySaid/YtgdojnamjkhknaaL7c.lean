/-
  The law TapedocOnly.
-/
import Derived.Test.YtgdojnamjkhknaaL7b
namespace Go.Proofs.Ytgdojnamjkhknaa
open Go.Am
set_option linter.all false
set_option maxRecDepth 100000
namespace T17
open TU
open WB (byt byt_len)
open TE (encF tapeI tapeP_len)
open TL (TN linesF TNOk)
open TD (tapeOk_k linesF_in)
def hn17h (p at_ x how nm : Int) (u0 u1 u2 u3 u4 u5 : Value) (ar a2 a3 : Option Addr) (a4 : Addr) (nr cr n2 c2 n3 c3 c4 : Nat) (H X1 X2 X3 : Heap) : Hs := (.use 26000023 (.raw (.slice a2 n2 c2)) ⟨[], [.seg X1]⟩ (.use 26000024 (.raw (.slice a3 n3 c3)) ⟨[], [.seg X2]⟩ (.use 30000025 (.raw (.slice (some a4) n3 c4)) ⟨[], [.seg X3]⟩ (.pur 10000028 (.bool false) (.con (.pur 10000032 (.int .i64 nm) .nil))))))
theorem tree17h (p at_ x how nm : Int) (u0 u1 u2 u3 u4 u5 : Value) (ar a2 a3 : Option Addr) (a4 : Addr) (nr cr n2 c2 n3 c3 c4 : Nat) (H X1 X2 X3 : Heap) : pieceS tbl (gE 0) (cE 0) 300 (fun i => (exL i r17_1 || resLv il17.res i)) c17_0 (hn17h p at_ x how nm u0 u1 u2 u3 u4 u5 ar a2 a3 a4 nr cr n2 c2 n3 c3 c4 H X1 X2 X3) (frS 126 [(0, (.raw (.agg ⟨[u0, u1, u2, u3, u4, u5]⟩))), (1, (sI p)), (2, (.raw (.slice ar nr cr))), (3, (sI at_)), (4, (.raw (.int .u8 x))), (5, (sI how))]) [.seg H] =
(.req ((((preWithin 1 9) && true) && ((eq0 u0 u0) && ((eq0 u1 u1) && ((eq0 u2 u2) && ((eq0 u3 u3) && ((eq0 u4 u4) && ((eq0 u5 u5) && true))))))) && true) (.req (preWithin 1 9) (.claim (opA (Plain.env tbl (gE 0)) (.call 51 [(.const (.agg ⟨[u0, u1, u2, u3, u4, u5]⟩))]) [] (denH [.seg H, .blk .fix [(.raw u0), (.raw u1), (.raw u2), (.raw u3), (.raw u4), (.raw u5)]]) = some ((.slice a2 n2 c2), denH [.seg H, .blk .fix [(.raw u0), (.raw u1), (.raw u2), (.raw u3), (.raw u4), (.raw u5)], .seg X1]))
 (.claim (opA (Plain.env tbl (gE 0)) (.call 60 [(.const (.int .i64 (wn p 1 9))), (.const (.slice a2 n2 c2))]) [] (denH [.seg H, .blk .fix [(.raw u0), (.raw u1), (.raw u2), (.raw u3), (.raw u4), (.raw u5)], .seg X1]) = some ((.slice a3 n3 c3), denH [.seg H, .blk .fix [(.raw u0), (.raw u1), (.raw u2), (.raw u3), (.raw u4), (.raw u5)], .seg X1, .seg X2]))
 (.claim (opA (Plain.env tbl (gE 0)) (.append 1 1 (.const (denV (ofs [.seg H, .blk .fix [(.raw u0), (.raw u1), (.raw u2), (.raw u3), (.raw u4), (.raw u5)], .seg X1, .seg X2, .blk .fix []]) (.sl 4 0 0 0))) (.const (.slice a3 n3 c3))) [] (denH [.seg H, .blk .fix [(.raw u0), (.raw u1), (.raw u2), (.raw u3), (.raw u4), (.raw u5)], .seg X1, .seg X2, .blk .fix []]) = some ((.slice (some a4) n3 c4), denH [.seg H, .blk .fix [(.raw u0), (.raw u1), (.raw u2), (.raw u3), (.raw u4), (.raw u5)], .seg X1, .seg X2, .blk .fix [], .seg X3]))
 (.claim (opA (Plain.env tbl (gE 0)) (.bin .eql (.const (.int .i64 (n3 : Int))) (.const (.int .i64 0))) [] [] = some ((.bool false), []))
 (.claim (opA (Plain.env tbl (gE 0)) (.bin .sub (.const (.int .i64 (n3 : Int))) (.const (.int .i64 1))) [] [] = some ((.int .i64 nm), []))
 (.req (preWithin 0 nm) (.ret .normal (frS 126 [(2, (.raw (.slice ar nr cr))), (4, (.raw (.int .u8 x))), (5, (sI how)), (12, (sB false)), (13, (.raw (.slice (some a4) n3 c4))), (14, (sI (wn at_ 0 nm)))]) [.seg H, .blk .fix [(.raw u0), (.raw u1), (.raw u2), (.raw u3), (.raw u4), (.raw u5)], .seg X1, .seg X2, .blk .fix [], .seg X3]))))))))) := by kernel_rfl
theorem sub_ok (Γ : Env) (x y z : Int) (h : z = IntKind.wrap .i64 (x - y)) : opA Γ (.bin .sub (.const (.int .i64 x)) (.const (.int .i64 y))) [] [] = some (.int .i64 z, []) := by subst h; rfl
theorem eq0_rows {w : Nat} {h : Heap} {v : Value} {rows : List (List Value)} (r : RowsW w h v rows) : eq0 v v = true := by
  obtain ⟨a, c, rfl⟩ := r.slc
  cases a <;> simp [eq0]
theorem law {H : Heap} {us : List Value} {raw : Value} {k : TN} {ys : List Int} {p at_ x how : Int} (hk : TNOk H k us) (hy : RowsW 1 H raw (ys.map br)) (iy : ∀ z ∈ ys, InB z) : Sim Try.prog 17 [.agg ⟨us⟩, .int .i64 p, raw, .int .i64 at_, .int .u8 x, .int .i64 how] H fun v _ => v = .bool true := by
  obtain ⟨ar, cr, rfl⟩ := hy.slcM
  obtain ⟨u0, u1, u2, u3, u4, u5, rfl, h0, h1, h2, h3, h4, h5⟩ := hk.ok
  have hk1 : TNOk (denH [.seg H, .blk .fix [.raw u0, .raw u1, .raw u2, .raw u3, .raw u4, .raw u5]]) k [u0, u1, u2, u3, u4, u5] := ⟨u0, u1, u2, u3, u4, u5, rfl, PK.up1 h0 _, PK.up1 h1 _, PK.up1 h2 _, PK.up1 h3 _, PK.up1 h4 _, PK.up1 h5 _⟩
  obtain ⟨a2, n2, c2, X1, g1, l1⟩ := TL.run51 (I := [.seg H, .blk .fix [.raw u0, .raw u1, .raw u2, .raw u3, .raw u4, .raw u5]]) rfl hk1
  obtain ⟨_, _, en⟩ := l1.slcM
  simp only [Value.slice.injEq] at en
  obtain ⟨_, rfl, _⟩ := en
  have r1 : RowsW 7 (denH [.seg H, .blk .fix [.raw u0, .raw u1, .raw u2, .raw u3, .raw u4, .raw u5], .seg X1]) (.slice a2 (linesF k).length c2) ((linesF k).map e7) := l1.rowsI (I := [.seg H, .blk .fix [.raw u0, .raw u1, .raw u2, .raw u3, .raw u4, .raw u5]]) (K := [.seg X1]) rfl (by decide) (by simp [denL, It.den])
  have lk := TL.linesF_len k
  have b1 : 1 ≤ wn p 1 9 := wn_lo (by decide)
  have b2 : wn p 1 9 ≤ 9 := wn_hi (by decide)
  have ok1 := tapeOk_k k b1 (show wn p 1 9 ≤ 600 by omega)
  obtain ⟨a3, c3, X2, g2, r3⟩ := TE.E60.use (I := [.seg H, .blk .fix [.raw u0, .raw u1, .raw u2, .raw u3, .raw u4, .raw u5], .seg X1]) (p := wn p 1 9) rfl r1 (by omega)
  obtain ⟨bs, eb⟩ : ∃ bs, bs = encF (wn p 1 9) (linesF k) := ⟨_, rfl⟩
  rw [← eb] at g2 r3
  have e0 : bs = byt (tapeI (wn p 1 9) (linesF k)) := by rw [eb]; unfold encF; rw [ok1, if_pos rfl]
  have ne : bs.length = 8 * (2 + 7 * (linesF k).length) := by rw [e0, byt_len, tapeI, tapeP_len]
  have iB : ∀ z ∈ bs, InB z := by rw [e0]; exact WB.byt_in _
  obtain ⟨a4, c4, X3, q1, q2⟩ := appNew (I := [.seg H, .blk .fix [.raw u0, .raw u1, .raw u2, .raw u3, .raw u4, .raw u5], .seg X1, .seg X2]) rfl (eby := 1) (w := 1) r3 (br_w _) (by decide) (by simp; omega) (by simp; omega)
  rw [List.length_map] at q1 q2
  obtain ⟨i, ei, hi⟩ : ∃ i : Nat, (i : Int) = wn at_ 0 ((bs.length : Int) - 1) ∧ i < bs.length := by
    have q1 := wn_lo (x := at_) (lo := 0) (hi := (bs.length : Int) - 1) (by omega)
    have q2 := wn_hi (x := at_) (lo := 0) (hi := (bs.length : Int) - 1) (by omega)
    exact ⟨(wn at_ 0 ((bs.length : Int) - 1)).toNat, by omega, by omega⟩
  have hy' : RowsW 1 (denH [.seg H, .blk .fix [.raw u0, .raw u1, .raw u2, .raw u3, .raw u4, .raw u5], .seg X1, .seg X2]) (.slice ar ys.length cr) (ys.map br) := PK.up1 hy _
  have eq3 : denH [.seg H, .blk .fix [.raw u0, .raw u1, .raw u2, .raw u3, .raw u4, .raw u5], .seg X1, .seg X2, .blk .fix [], .seg X3] = denH [.seg H, .blk .fix [.raw u0, .raw u1, .raw u2, .raw u3, .raw u4, .raw u5], .seg X1, .seg X2] ++ (some ⟨.fix, []⟩ :: X3) := by
    have := denH_app (I := [.seg H, .blk .fix [.raw u0, .raw u1, .raw u2, .raw u3, .raw u4, .raw u5], .seg X1, .seg X2]) (J := [.blk .fix [], .seg X3]) rfl
    refine this.trans ?_
    simp [denL, It.den]
  have q0 : ((eq0 u0 u0) && ((eq0 u1 u1) && ((eq0 u2 u2) && ((eq0 u3 u3) && ((eq0 u4 u4) && ((eq0 u5 u5) && true)))))) = true := by
    rw [eq0_rows h0, eq0_rows h1, eq0_rows h2, eq0_rows h3, eq0_rows h4, eq0_rows h5]; rfl
  have w : Wp (Plain.env tbl (gE 0)) (resLv il17.res) il17.body (denF [.seg H] (frS 126 [(0, (.raw (.agg ⟨[u0, u1, u2, u3, u4, u5]⟩))), (1, (sI p)), (2, (.raw (.slice ar ys.length cr))), (3, (sI at_)), (4, (.raw (.int .u8 x))), (5, (sI how))])) (denH [.seg H]) fun e s h' => (e = .normal ∨ e = .ret) ∧ ∃ v, resA s h' il17.res = some v ∧ v = .bool true := by
    refine Wp.split' (n := 3) (p := c17_0) (q := r17_1) (lv' := fun i => (exL i r17_1 || resLv il17.res i)) (by kernel_rfl) (fun i q => q) ?_
    have tr := tree17h p at_ x how ((bs.length : Int) - 1) u0 u1 u2 u3 u4 u5 ar a2 a3 a4 ys.length cr (linesF k).length c2 bs.length c3 c4 H X1 X2 X3
    rw [← ei] at tr
    refine Wp.tree (cE_ok 0) tr ⟨by kernel_rfl, by kernel_rfl⟩ ⟨by rw [q0]; rfl, rfl, call (args := [_]) rfl g1, call (args := [_, _]) rfl g2, q1 _, eql_ok _ _ _ _ (decide_eq_false (by omega)).symm, sub_ok _ _ _ _ (by rw [wrap64 (by omega) (by omega)]), by simp [preWithin]; omega, ?_⟩
    show Wp (Plain.env tbl (gE 0)) (resLv il17.res) r17_1 (denF [.seg H, .blk .fix [.raw u0, .raw u1, .raw u2, .raw u3, .raw u4, .raw u5], .seg X1, .seg X2, .blk .fix [], .seg X3] (frS 126 [(2, (.raw (.slice ar ys.length cr))), (4, (.raw (.int .u8 x))), (5, (sI how)), (12, (sB false)), (13, (.raw (.slice (some a4) bs.length c4))), (14, (sI i))])) (denH [.seg H, .blk .fix [.raw u0, .raw u1, .raw u2, .raw u3, .raw u4, .raw u5], .seg X1, .seg X2, .blk .fix [], .seg X3]) _
    obtain ⟨JJ, eJ⟩ : ∃ JJ : Heap, JJ = some ⟨.fix, []⟩ :: X3 := ⟨_, rfl⟩
    have eq5 : denH [.seg H, .blk .fix [.raw u0, .raw u1, .raw u2, .raw u3, .raw u4, .raw u5], .seg X1, .seg X2, .blk .fix [], .seg X3] = denH [.seg (denH [.seg H, .blk .fix [.raw u0, .raw u1, .raw u2, .raw u3, .raw u4, .raw u5], .seg X1, .seg X2]), .seg JJ] := by
      rw [eq3, eJ]; simp [denH, denL, It.den]
    have l7 : LsS 1 (denH [.seg H, .blk .fix [.raw u0, .raw u1, .raw u2, .raw u3, .raw u4, .raw u5], .seg X1, .seg X2]) JJ (.slice (some a4) bs.length c4) (bs.map br) := by rw [eJ]; exact q2
    rw [eq5, show denF [.seg H, .blk .fix [.raw u0, .raw u1, .raw u2, .raw u3, .raw u4, .raw u5], .seg X1, .seg X2, .blk .fix [], .seg X3] (frS 126 [(2, (.raw (.slice ar ys.length cr))), (4, (.raw (.int .u8 x))), (5, (sI how)), (12, (sB false)), (13, (.raw (.slice (some a4) bs.length c4))), (14, (sI i))]) = denF [.seg (denH [.seg H, .blk .fix [.raw u0, .raw u1, .raw u2, .raw u3, .raw u4, .raw u5], .seg X1, .seg X2]), .seg JJ] (frS 126 [(2, (.raw (.slice ar ys.length cr))), (4, (.raw (.int .u8 x))), (5, (sI how)), (12, (sB false)), (13, (.raw (.slice (some a4) bs.length c4))), (14, (sI i))]) by show denF _ _ = denF _ _; kernel_rfl]
    exact sw l7 iB (by omega) hi hy' iy fun G' ab' cb' bs' h1 h2 h3 => tail h1 h2 h3
  rw [one] at w
  refine wp_sim' mixed (gE_ok 0) (gE_q 0) st17 ?_
  have ef : [.agg ⟨[u0, u1, u2, u3, u4, u5]⟩, .int .i64 p, .slice ar ys.length cr, .int .i64 at_, .int .u8 x, .int .i64 how] ++ List.replicate (il17.ntmps - 6) undef = denF [.seg H] (frS 126 [(0, (.raw (.agg ⟨[u0, u1, u2, u3, u4, u5]⟩))), (1, (sI p)), (2, (.raw (.slice ar ys.length cr))), (3, (sI at_)), (4, (.raw (.int .u8 x))), (5, (sI how))]) := by kernel_rfl
  show Wp _ _ _ ([.agg ⟨[u0, u1, u2, u3, u4, u5]⟩, .int .i64 p, .slice ar ys.length cr, .int .i64 at_, .int .u8 x, .int .i64 how] ++ List.replicate (il17.ntmps - 6) undef) _ _
  rw [ef]
  exact w
theorem lawA (H : Heap) (xs : List Value) (h : F2 (fun p a => ArgOk H p.1 p.2 a) [(true, [.s 1 [.i .i64], .s 1 [.i .i64], .s 1 [.i .i64], .s 1 [.i .i64], .s 1 [.i .i64], .s 1 [.i .i64]]), (false, [LT.f (.i .i64)]), (false, [LT.s 1 [.i .u8]]), (false, [LT.f (.i .i64)]), (false, [LT.f (.i .u8)]), (false, [LT.f (.i .i64)])] xs) : Sim Try.prog 17 xs H fun v _ => v = .bool true := by
  cases h with
  | cons h0 h => cases h with
    | cons h1 h => cases h with
      | cons h2 h => cases h with
        | cons h3 h => cases h with
          | cons h4 h => cases h with
            | cons h5 h => cases h with
              | nil =>
                obtain ⟨vs, k, rfl, hk⟩ := TD.tn_of h0
                obtain ⟨p, rfl, _⟩ := lt_int (arg_one h1)
                obtain ⟨ys, hy, iy, _⟩ := lt_bytes (arg_one h2)
                obtain ⟨a, rfl, _⟩ := lt_int (arg_one h3)
                obtain ⟨x, rfl, _⟩ := lt_byte (arg_one h4)
                obtain ⟨hw, rfl, _⟩ := lt_int (arg_one h5)
                exact law hk hy iy
end T17
end Go.Proofs.Ytgdojnamjkhknaa
