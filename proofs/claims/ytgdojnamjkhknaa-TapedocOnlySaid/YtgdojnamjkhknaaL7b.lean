/-
  The law TapedocOnly: bytes turned, cut, or more.
-/
import Derived.Test.YtgdojnamjkhknaaL7a
namespace Go.Proofs.Ytgdojnamjkhknaa
open Go.Am
set_option linter.all false
set_option maxRecDepth 100000
namespace T17
open TU
def hn17w0 (ab ar aw a4 : Option Addr) (nb cb_ nr cr nw cw n4 c4 b1 o1 : Nat) (i x how z z2 k1 : Int) (G J J2 X : Heap) : Hs := (.yes (.pur 22000045 (.pointer (some ⟨b1, o1, none⟩)) (.use 7000046 (.raw (.int .u8 z)) ⟨[], []⟩ (.pur 10000048 (.int .u8 z2) (.pur 22000049 (.pointer (some ⟨b1, o1, none⟩)) (.use 8009999 (.raw (.tuple ⟨[]⟩)) ⟨[(1, .seg J2)], []⟩ .nil))))))
theorem tree17w0 (ab ar aw a4 : Option Addr) (nb cb_ nr cr nw cw n4 c4 b1 o1 : Nat) (i x how z z2 k1 : Int) (G J J2 X : Heap) : pieceS tbl (gE 0) (cE 0) 300 (fun i => (exL i r17_2 || resLv il17.res i)) c17_1 (hn17w0 ab ar aw a4 nb cb_ nr cr nw cw n4 c4 b1 o1 i x how z z2 k1 G J J2 X) (frS 126 [(2, (.raw (.slice ar nr cr))), (4, (.raw (.int .u8 x))), (5, (sI how)), (12, (sB false)), (13, (.raw (.slice ab nb cb_))), (14, (sI i))]) [.seg G, .seg J] =
(.req (preWithin 0 4) (.req ((wn how 0 4) == 0) (.claim (opA (Plain.env tbl (gE 0)) (.iadr 1 none (.const (.slice ab nb cb_)) (.const (.int .i64 i))) [] [] = some ((.pointer (some ⟨b1, o1, none⟩)), []))
 (.claim (opA (Plain.env tbl (gE 0)) (.load (.const (.pointer (some ⟨b1, o1, none⟩))) none) [] (denH [.seg G, .seg J]) = some ((.int .u8 z), denH [.seg G, .seg J]))
 (.claim (opA (Plain.env tbl (gE 0)) (.bin .xor (.const (.int .u8 z)) (.const (.int .u8 x))) [] [] = some ((.int .u8 z2), []))
 (.claim (opA (Plain.env tbl (gE 0)) (.iadr 1 none (.const (.slice ab nb cb_)) (.const (.int .i64 i))) [] [] = some ((.pointer (some ⟨b1, o1, none⟩)), []))
 (.claim (List.length J2 = List.length J) (.claim (opA (Plain.env tbl (gE 0)) (.store (.const (.pointer (some ⟨b1, o1, none⟩))) (.const (.int .u8 z2)) 1) [] (denH [.seg G, .seg J]) = some ((.tuple ⟨[]⟩), denH [.seg G, .seg J2]))
 (.ret .normal (frS 126 [(12, (sB false)), (13, (.raw (.slice ab nb cb_)))]) [.seg G, .seg J2]))))))))) := by kernel_rfl
def hn17w1 (ab ar aw a4 : Option Addr) (nb cb_ nr cr nw cw n4 c4 b1 o1 : Nat) (i x how z z2 k1 : Int) (G J J2 X : Heap) : Hs := (.no (.yes (.use 17000054 (.raw (.slice aw nw cw)) ⟨[], []⟩ .nil)))
theorem tree17w1 (ab ar aw a4 : Option Addr) (nb cb_ nr cr nw cw n4 c4 b1 o1 : Nat) (i x how z z2 k1 : Int) (G J J2 X : Heap) : pieceS tbl (gE 0) (cE 0) 300 (fun i => (exL i r17_2 || resLv il17.res i)) c17_1 (hn17w1 ab ar aw a4 nb cb_ nr cr nw cw n4 c4 b1 o1 i x how z z2 k1 G J J2 X) (frS 126 [(2, (.raw (.slice ar nr cr))), (4, (.raw (.int .u8 x))), (5, (sI how)), (12, (sB false)), (13, (.raw (.slice ab nb cb_))), (14, (sI i))]) [.seg G, .seg J] =
(.req (preWithin 0 4) (.req (!((wn how 0 4) == 0)) (.req ((wn how 0 4) == 1) (.claim (opA (Plain.env tbl (gE 0)) (.slice 1 (.const (.slice ab nb cb_)) none (some (.const (.int .i64 i))) none) [] (denH [.seg G, .seg J]) = some ((.slice aw nw cw), denH [.seg G, .seg J]))
 (.ret .normal (frS 126 [(12, (sB false)), (13, (.raw (.slice aw nw cw)))]) [.seg G, .seg J]))))) := by kernel_rfl
def hn17w2 (ab ar aw a4 : Option Addr) (nb cb_ nr cr nw cw n4 c4 b1 o1 : Nat) (i x how z z2 k1 : Int) (G J J2 X : Heap) : Hs := (.no (.no (.yes (.pur 32000061 (.int .i64 k1) (.bas 17000062 (.slice a4 n4 c4) (.use 30000063 (.raw (.slice aw nw cw)) ⟨[(1, .seg J2)], [.seg X]⟩ .nil))))))
theorem tree17w2 (ab ar aw a4 : Option Addr) (nb cb_ nr cr nw cw n4 c4 b1 o1 : Nat) (i x how z z2 k1 : Int) (G J J2 X : Heap) : pieceS tbl (gE 0) (cE 0) 300 (fun i => (exL i r17_2 || resLv il17.res i)) c17_1 (hn17w2 ab ar aw a4 nb cb_ nr cr nw cw n4 c4 b1 o1 i x how z z2 k1 G J J2 X) (frS 126 [(2, (.raw (.slice ar nr cr))), (4, (.raw (.int .u8 x))), (5, (sI how)), (12, (sB false)), (13, (.raw (.slice ab nb cb_))), (14, (sI i))]) [.seg G, .seg J] =
(.req (preWithin 0 4) (.req (!((wn how 0 4) == 0)) (.req (!((wn how 0 4) == 1)) (.req ((wn how 0 4) == 2) (.claim (opA (Plain.env tbl (gE 0)) (.mn (.const (.int .i64 (nr : Int))) (.const (.int .i64 20))) [] [] = some ((.int .i64 k1), []))
 (.claim (opA (Plain.env tbl (gE 0)) (.slice 1 (.const (.slice ar nr cr)) none (some (.const (.int .i64 k1))) none) [] G = some ((.slice a4 n4 c4), G))
 (.claim (List.length J2 = List.length J) (.claim (opA (Plain.env tbl (gE 0)) (.append 1 1 (.const (.slice ab nb cb_)) (.const (.slice a4 n4 c4))) [] (denH [.seg G, .seg J]) = some ((.slice aw nw cw), denH [.seg G, .seg J2, .seg X]))
 (.ret .normal (frS 126 [(12, (sB false)), (13, (.raw (.slice aw nw cw)))]) [.seg G, .seg J2, .seg X]))))))))) := by kernel_rfl
def hn17w3 (ab ar aw a4 : Option Addr) (nb cb_ nr cr nw cw n4 c4 b1 o1 : Nat) (i x how z z2 k1 : Int) (G J J2 X : Heap) : Hs := (.no (.no (.no (.yes (.pur 32000070 (.int .i64 k1) (.bas 17000071 (.slice a4 n4 c4) (.use 30000072 (.raw (.slice aw nw cw)) ⟨[], [.seg X]⟩ .nil)))))))
theorem tree17w3 (ab ar aw a4 : Option Addr) (nb cb_ nr cr nw cw n4 c4 b1 o1 : Nat) (i x how z z2 k1 : Int) (G J J2 X : Heap) : pieceS tbl (gE 0) (cE 0) 300 (fun i => (exL i r17_2 || resLv il17.res i)) c17_1 (hn17w3 ab ar aw a4 nb cb_ nr cr nw cw n4 c4 b1 o1 i x how z z2 k1 G J J2 X) (frS 126 [(2, (.raw (.slice ar nr cr))), (4, (.raw (.int .u8 x))), (5, (sI how)), (12, (sB false)), (13, (.raw (.slice ab nb cb_))), (14, (sI i))]) [.seg G, .seg J] =
(.req (preWithin 0 4) (.req (!((wn how 0 4) == 0)) (.req (!((wn how 0 4) == 1)) (.req (!((wn how 0 4) == 2)) (.req ((wn how 0 4) == 3) (.claim (opA (Plain.env tbl (gE 0)) (.mn (.const (.int .i64 (nr : Int))) (.const (.int .i64 200))) [] [] = some ((.int .i64 k1), []))
 (.claim (opA (Plain.env tbl (gE 0)) (.slice 1 (.const (.slice ar nr cr)) none (some (.const (.int .i64 k1))) none) [] G = some ((.slice a4 n4 c4), G))
 (.claim (opA (Plain.env tbl (gE 0)) (.append 1 1 (.const (denV (ofs [.seg G, .seg J, .blk .fix []]) (.sl 2 0 0 0))) (.const (.slice a4 n4 c4))) [] (denH [.seg G, .seg J, .blk .fix []]) = some ((.slice aw nw cw), denH [.seg G, .seg J, .blk .fix [], .seg X]))
 (.ret .normal (frS 126 [(12, (sB false)), (13, (.raw (.slice aw nw cw)))]) [.seg G, .seg J, .blk .fix [], .seg X]))))))))) := by kernel_rfl
def hn17w4 (ab ar aw a4 : Option Addr) (nb cb_ nr cr nw cw n4 c4 b1 o1 : Nat) (i x how z z2 k1 : Int) (G J J2 X : Heap) : Hs := (.no (.no (.no (.no (.pur 10000039 (.int .i64 k1) (.use 17000040 (.raw (.slice aw nw cw)) ⟨[], []⟩ .nil))))))
theorem tree17w4 (ab ar aw a4 : Option Addr) (nb cb_ nr cr nw cw n4 c4 b1 o1 : Nat) (i x how z z2 k1 : Int) (G J J2 X : Heap) : pieceS tbl (gE 0) (cE 0) 300 (fun i => (exL i r17_2 || resLv il17.res i)) c17_1 (hn17w4 ab ar aw a4 nb cb_ nr cr nw cw n4 c4 b1 o1 i x how z z2 k1 G J J2 X) (frS 126 [(2, (.raw (.slice ar nr cr))), (4, (.raw (.int .u8 x))), (5, (sI how)), (12, (sB false)), (13, (.raw (.slice ab nb cb_))), (14, (sI i))]) [.seg G, .seg J] =
(.req (preWithin 0 4) (.req (!((wn how 0 4) == 0)) (.req (!((wn how 0 4) == 1)) (.req (!((wn how 0 4) == 2)) (.req (!((wn how 0 4) == 3)) (.req true (.claim (opA (Plain.env tbl (gE 0)) (.bin .mul (.const (.int .i64 8)) (.const (.int .i64 (IntKind.wrap .i64 (Int.tdiv i 8))))) [] [] = some ((.int .i64 k1), []))
 (.claim (opA (Plain.env tbl (gE 0)) (.slice 1 (.const (.slice ab nb cb_)) none (some (.const (.int .i64 k1))) none) [] (denH [.seg G, .seg J]) = some ((.slice aw nw cw), denH [.seg G, .seg J]))
 (.ret .normal (frS 126 [(12, (sB false)), (13, (.raw (.slice aw nw cw)))]) [.seg G, .seg J]))))))))) := by kernel_rfl
theorem one (A : Heap) : denH [.seg A] = A := by simp [denH, denL, It.den]
theorem u8_in (x : Int) : InB (IntKind.wrap .u8 x) := by
  unfold InB IntKind.wrap
  simp [IntKind.bits, IntKind.signed]
  omega
theorem xor_ok (Γ : Env) (x y : Int) : ∃ z, opA Γ (.bin .xor (.const (.int .u8 x)) (.const (.int .u8 y))) [] [] = some (.int .u8 z, []) ∧ InB z := ⟨_, rfl, u8_in _⟩
theorem mul_ok (Γ : Env) (x y z : Int) (h : z = IntKind.wrap .i64 (x * y)) : opA Γ (.bin .mul (.const (.int .i64 x)) (.const (.int .i64 y))) [] [] = some (.int .i64 z, []) := by subst h; rfl
theorem sw {G J : Heap} {ab ar : Option Addr} {cb_ cr : Nat} {bs ys : List Int} {i : Nat} {x how : Int} {K : Post2} (hb : LsS 1 G J (.slice ab bs.length cb_) (bs.map br)) (hi : ∀ z ∈ bs, InB z) (hn : bs.length ≤ 90000) (hl : i < bs.length) (hy : RowsW 1 G (.slice ar ys.length cr) (ys.map br)) (iy : ∀ z ∈ ys, InB z)
    (fin : ∀ (G' : Heap) (ab' : Option Addr) (cb' : Nat) (bs' : List Int), RowsW 1 G' (.slice ab' bs'.length cb') (bs'.map br) → (∀ z ∈ bs', InB z) → bs'.length ≤ 100000 → Wp (Plain.env tbl (gE 0)) (resLv il17.res) r17_2 (denF [.seg G'] (frS 126 [(12, (sB false)), (13, (.raw (.slice ab' bs'.length cb')))])) (denH [.seg G']) K) :
    Wp (Plain.env tbl (gE 0)) (resLv il17.res) r17_1 (denF [.seg G, .seg J] (frS 126 [(2, (.raw (.slice ar ys.length cr))), (4, (.raw (.int .u8 x))), (5, (sI how)), (12, (sB false)), (13, (.raw (.slice ab bs.length cb_))), (14, (sI i))])) (denH [.seg G, .seg J]) K := by
  have w0 := wn_lo (x := how) (lo := 0) (hi := 4) (by decide)
  have w4 := wn_hi (x := how) (lo := 0) (hi := 4) (by decide)
  have e0 : denH [.seg G] = G := by simp [denH, denL, It.den]
  have hr : RowsW 1 (denH [.seg G, .seg J]) (.slice ab bs.length cb_) (bs.map br) := by
    have := hb.rows (by decide) []
    simpa [denH, denL, It.den] using this
  refine Wp.split' (n := 0) (p := c17_1) (q := r17_2) (lv' := fun i => (exL i r17_2 || resLv il17.res i)) (by kernel_rfl) (fun i q => q) ?_
  by_cases h0 : wn how 0 4 = 0
  · obtain ⟨z, hz⟩ := getE hl
    obtain ⟨z2, gz, iz⟩ := xor_ok (Plain.env tbl (gE 0)) z x
    obtain ⟨bb, oo, J2, z1, q2, q3, q4⟩ := hb.set (R := []) (i := i) (f := 0) (r := br z) (vs := [.int .u8 z2]) (by rw [List.getElem?_map, hz]; rfl) (by simp)
    obtain ⟨b', o', ra⟩ := hr.rowM hz
    have eb : b' = bb ∧ o' = oo := by
      have := (ra.ptr (Plain.env tbl (gE 0)) []).symm.trans (q2 (Plain.env tbl (gE 0)) [])
      simpa using this
    obtain ⟨rfl, rfl⟩ := eb
    have es : (bs.map br).set i (setL (br z) 0 [.int .u8 z2]) = (bs.set i z2).map br := by rw [List.map_set]; rfl
    rw [es] at q4
    have lq : (bs.set i z2).length = bs.length := List.length_set
    have gs := q3 (Plain.env tbl (gE 0)) (.int .u8 z2) 1 rfl rfl rfl
    refine Wp.tree (cE_ok 0) (tree17w0 ab ar none none bs.length cb_ ys.length cr 0 0 0 0 b' o' i x how z z2 0 G J J2 []) ⟨rfl, rfl⟩ ⟨rfl, by simpa using h0, q2 _ _, ra.one _, gz, q2 _ _, z1, by simpa [denH, denL, It.den] using gs, ?_⟩
    have := fin (denH [.seg G, .seg J2]) ab cb_ (bs.set i z2) (by rw [lq]; have := q4.rows (by decide) []; simpa [denH, denL, It.den] using this) (fun y hy => by
      rcases List.mem_or_eq_of_mem_set hy with hy | rfl
      · exact hi y hy
      · exact iz) (by rw [lq]; omega)
    rw [lq] at this
    rw [one] at this
    have ef : denF [.seg G, .seg J2] (frS 126 [(12, (sB false)), (13, (.raw (.slice ab bs.length cb_)))]) = denF [.seg (denH [.seg G, .seg J2])] (frS 126 [(12, (sB false)), (13, (.raw (.slice ab bs.length cb_)))]) := by show denF _ _ = denF _ _; kernel_rfl
    show Wp (Plain.env tbl (gE 0)) (resLv il17.res) r17_2 (denF [.seg G, .seg J2] (frS 126 [(12, (sB false)), (13, (.raw (.slice ab bs.length cb_)))])) (denH [.seg G, .seg J2]) K
    rw [ef]
    exact this
  by_cases h1 : wn how 0 4 = 1
  · obtain ⟨v, t1, r1⟩ := hr.cutM (lo := 0) (hi := i) (by omega) (by omega) none (some (.const (.int .i64 i))) (.inl ⟨rfl, rfl⟩) (.inr rfl)
    rw [List.drop_zero] at r1
    obtain ⟨a, c, rfl⟩ := r1.slcM
    refine Wp.tree (cE_ok 0) (tree17w1 ab ar a none bs.length cb_ ys.length cr (bs.take i).length c 0 0 0 0 i x how 0 0 0 G J [] []) ⟨rfl, rfl⟩ ⟨rfl, by simp [h0], by simp [h1], t1 _, ?_⟩
    have := fin (denH [.seg G, .seg J]) a c (bs.take i) r1 (fun y hy => hi y (List.mem_of_mem_take hy)) (by rw [List.length_take]; omega)
    rw [one] at this
    have ef : denF [.seg G, .seg J] (frS 126 [(12, (sB false)), (13, (.raw (.slice a (bs.take i).length c)))]) = denF [.seg (denH [.seg G, .seg J])] (frS 126 [(12, (sB false)), (13, (.raw (.slice a (bs.take i).length c)))]) := by show denF _ _ = denF _ _; kernel_rfl
    show Wp (Plain.env tbl (gE 0)) (resLv il17.res) r17_2 (denF [.seg G, .seg J] (frS 126 [(12, (sB false)), (13, (.raw (.slice a (bs.take i).length c)))])) (denH [.seg G, .seg J]) K
    rw [ef]
    exact this
  by_cases h2 : wn how 0 4 = 2
  · obtain ⟨v, t1, r1⟩ := hy.cutM (lo := 0) (hi := min ys.length 20) (by omega) (by omega) none (some (.const (.int .i64 (min ys.length 20 : Nat)))) (.inl ⟨rfl, rfl⟩) (.inr rfl)
    rw [List.drop_zero] at r1
    obtain ⟨a4, c4, rfl⟩ := r1.slcM
    obtain ⟨v, J2, X, q1, q2, q3⟩ := hb.app (w := 1) (eby := 1) (R := []) (x := .slice a4 (ys.take (min ys.length 20)).length c4) (new := (ys.take (min ys.length 20)).map br) ((r1.app _).src) (br_w _) (by decide) (by simp; omega) (by simp; omega)
    rw [← List.map_append] at q3
    obtain ⟨a, c, rfl⟩ := q3.slcM
    refine Wp.tree (cE_ok 0) (tree17w2 ab ar a a4 bs.length cb_ ys.length cr (bs ++ ys.take (min ys.length 20)).length c (ys.take (min ys.length 20)).length c4 0 0 i x how 0 0 (min ys.length 20 : Nat) G J J2 X) ⟨rfl, rfl⟩ ⟨rfl, by simp [h0], by simp [h1], by simp [h2], mn_ok _ _ 20, t1 _, q1, by simpa [denH, denL, It.den] using q2 (Plain.env tbl (gE 0)), ?_⟩
    have := fin (denH [.seg G, .seg J2, .seg X]) a c (bs ++ ys.take (min ys.length 20)) (by have := q3.rows (by decide) []; simpa [denH, denL, It.den] using this) (fun y hy => by
      rcases List.mem_append.1 hy with hy | hy
      · exact hi y hy
      · exact iy y (List.mem_of_mem_take hy)) (by rw [List.length_append, List.length_take]; omega)
    rw [one] at this
    have ef : denF [.seg G, .seg J2, .seg X] (frS 126 [(12, (sB false)), (13, (.raw (.slice a (bs ++ ys.take (min ys.length 20)).length c)))]) = denF [.seg (denH [.seg G, .seg J2, .seg X])] (frS 126 [(12, (sB false)), (13, (.raw (.slice a (bs ++ ys.take (min ys.length 20)).length c)))]) := by show denF _ _ = denF _ _; kernel_rfl
    show Wp (Plain.env tbl (gE 0)) (resLv il17.res) r17_2 (denF [.seg G, .seg J2, .seg X] (frS 126 [(12, (sB false)), (13, (.raw (.slice a (bs ++ ys.take (min ys.length 20)).length c)))])) (denH [.seg G, .seg J2, .seg X]) K
    rw [ef]
    exact this
  by_cases h3 : wn how 0 4 = 3
  · obtain ⟨v, t1, r1⟩ := hy.cutM (lo := 0) (hi := min ys.length 200) (by omega) (by omega) none (some (.const (.int .i64 (min ys.length 200 : Nat)))) (.inl ⟨rfl, rfl⟩) (.inr rfl)
    rw [List.drop_zero] at r1
    obtain ⟨a4, c4, rfl⟩ := r1.slcM
    obtain ⟨a, c, X, q1, q2⟩ := appNew (I := [.seg G, .seg J]) rfl (eby := 1) (w := 1) (PK.up1 r1 [.seg J]) (br_w _) (by decide) (by simp; omega) (by simp; omega)
    rw [List.length_map] at q1 q2
    refine Wp.tree (cE_ok 0) (tree17w3 ab ar (some a) a4 bs.length cb_ ys.length cr (ys.take (min ys.length 200)).length c (ys.take (min ys.length 200)).length c4 0 0 i x how 0 0 (min ys.length 200 : Nat) G J [] X) ⟨rfl, rfl⟩ ⟨rfl, by simp [h0], by simp [h1], by simp [h2], by simp [h3], mn_ok _ _ 200, t1 _, q1 _, ?_⟩
    have := fin (denH [.seg G, .seg J, .blk .fix [], .seg X]) (some a) c (ys.take (min ys.length 200)) (q2.rowsI (I := [.seg G, .seg J]) (K := [.blk .fix [], .seg X]) rfl (by decide) (by simp [denL, It.den])) (fun y hy => iy y (List.mem_of_mem_take hy)) (by rw [List.length_take]; omega)
    rw [one] at this
    have ef : denF [.seg G, .seg J, .blk .fix [], .seg X] (frS 126 [(12, (sB false)), (13, (.raw (.slice (some a) (ys.take (min ys.length 200)).length c)))]) = denF [.seg (denH [.seg G, .seg J, .blk .fix [], .seg X])] (frS 126 [(12, (sB false)), (13, (.raw (.slice (some a) (ys.take (min ys.length 200)).length c)))]) := by show denF _ _ = denF _ _; kernel_rfl
    show Wp (Plain.env tbl (gE 0)) (resLv il17.res) r17_2 (denF [.seg G, .seg J, .blk .fix [], .seg X] (frS 126 [(12, (sB false)), (13, (.raw (.slice (some a) (ys.take (min ys.length 200)).length c)))])) (denH [.seg G, .seg J, .blk .fix [], .seg X]) K
    rw [ef]
    exact this
  · have hd : Int.tdiv (i : Int) 8 = ((i / 8 : Nat) : Int) := (Int.ofNat_tdiv i 8).symm
    obtain ⟨v, t1, r1⟩ := hr.cutM (lo := 0) (hi := 8 * (i / 8)) (by omega) (by omega) none (some (.const (.int .i64 (8 * (i / 8) : Nat)))) (.inl ⟨rfl, rfl⟩) (.inr rfl)
    rw [List.drop_zero] at r1
    obtain ⟨a, c, rfl⟩ := r1.slcM
    refine Wp.tree (cE_ok 0) (tree17w4 ab ar a none bs.length cb_ ys.length cr (bs.take (8 * (i / 8))).length c 0 0 0 0 i x how 0 0 (8 * (i / 8) : Nat) G J [] []) ⟨rfl, rfl⟩ ⟨rfl, by simp [h0], by simp [h1], by simp [h2], by simp [h3], rfl, mul_ok _ _ _ _ (by rw [hd, wrap64 (x := ((i / 8 : Nat) : Int)) (by omega) (by omega), wrap64 (by omega) (by omega)]; omega), t1 _, ?_⟩
    have := fin (denH [.seg G, .seg J]) a c (bs.take (8 * (i / 8))) r1 (fun y hy => hi y (List.mem_of_mem_take hy)) (by rw [List.length_take]; omega)
    rw [one] at this
    have ef : denF [.seg G, .seg J] (frS 126 [(12, (sB false)), (13, (.raw (.slice a (bs.take (8 * (i / 8))).length c)))]) = denF [.seg (denH [.seg G, .seg J])] (frS 126 [(12, (sB false)), (13, (.raw (.slice a (bs.take (8 * (i / 8))).length c)))]) := by show denF _ _ = denF _ _; kernel_rfl
    show Wp (Plain.env tbl (gE 0)) (resLv il17.res) r17_2 (denF [.seg G, .seg J] (frS 126 [(12, (sB false)), (13, (.raw (.slice a (bs.take (8 * (i / 8))).length c)))])) (denH [.seg G, .seg J]) K
    rw [ef]
    exact this
end T17
end Go.Proofs.Ytgdojnamjkhknaa
